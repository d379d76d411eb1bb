/- Part 2 of what the statements of this seat need: a logic of states for the code of the model, the functions that they reach, and what these are held to do: no condition. -/
import Derived.MapKept
import Derived.ProofKit
import Derived.LaidMore
import Derived.OpenShut
import Derived.Deep.Slices
import Derived.Test.YteahjgigkbkcdaaDoorS01

/- S-logic, part 15c: maps. -/
namespace Go.SL
open Go Go.MapKept
variable [GTab]

/-- What is known of a key's type. -/
structure KeyOk (P : Program) (k : TypeId) (K : Ty) (d : TypeDesc) : Prop where
  u : P.underlying k = some d
  isK : ∀ E (x : K.I) v, AR E ⟨K, x⟩ v → IsKey d v
  same : ∀ E (x y : K.I) v u, AR E ⟨K, x⟩ v → AR E ⟨K, y⟩ u → (keyEq K x y = true ↔ v = u)

omit [GTab] in
theorem keyOk {P : Program} {D : TI} (gd : Good P D) {k : TypeId} {K : Ty} (h : D.ty k = some K) (hk : K.isKey = true) : ∃ d, KeyOk P k K d := by
  obtain ⟨i, d, z, _, hd, _, _, _, hx⟩ := gd.info h
  refine ⟨d, hd, ?_, ?_⟩
  · intro E x v ha
    cases K <;> simp only [Ty.isKey, Bool.false_eq_true] at hk
    all_goals
      cases d <;> simp only [descOk, Bool.false_eq_true, decide_eq_true_eq] at hx
      unfold AR at ha
      simp only [Ty.agg, CR, List.cons.injEq, and_true] at ha
    · rw [ha.1, hx]; rfl
    · rw [ha]; trivial
    · rw [ha.1]; trivial
  · intro E x y v u ha hb
    cases K <;> simp only [Ty.isKey, Bool.false_eq_true] at hk
    all_goals
      unfold AR at ha hb
      simp only [Ty.agg, CR, List.cons.injEq, and_true] at ha hb
    · rw [ha.1, hb.1]
      simp [keyEq]
    · rw [ha, hb]
      simp [keyEq]
    · rw [ha.1, hb.1]
      simp [keyEq]

omit [GTab] in
theorem find_ok {P : Program} {E : Env} {k : TypeId} {K V : Ty} {d : TypeDesc} (hk : KeyOk P k K d) {x : K.I} {key : Value} (hx : AR E ⟨K, x⟩ key) : ∀ (l : List (K.I × V.I)) (es : List MapEntry) (i : Nat), LF (MapE E (.cons K (.last V))) l es →
    (getK K V l x = none ∧ Instr.findNow d key es i = some none ∧ ∀ y, putK K V l x y = l ++ [(x, y)]) ∨
    ∃ j e y0, getK K V l x = some y0 ∧ Instr.findNow d key es i = some (some (i + j, e.val)) ∧ es[j]? = some e ∧ e.key = key ∧ AR E ⟨V, y0⟩ e.val ∧ ∀ y, putK K V l x y = l.set j (x, y)
  | [], es, i, h => by
    rw [show es = [] from h]
    exact .inl ⟨rfl, rfl, fun _ => rfl⟩
  | p :: l, es, i, h => by
    obtain ⟨e, es', rfl, ⟨_, h1, h2⟩, h3⟩ := h
    obtain ⟨r, hr, hiff⟩ := sameNow_of_keys (hk.isK E x key hx) (hk.isK E p.1 e.key h1)
    have hke := hk.same E x p.1 key e.key hx h1
    cases r with
    | true =>
      have hq : keyEq K x p.1 = true := hke.2 (hiff.1 rfl)
      refine .inr ⟨0, e, p.2, ?_, ?_, rfl, (hiff.1 rfl).symm, h2, fun y => ?_⟩
      · simp only [getK, hq]
      · simp [Instr.findNow, hr]
      · simp only [putK, hq, List.set_cons_zero]
    | false =>
      have hq : keyEq K x p.1 = false := by
        cases hh : keyEq K x p.1 with
        | false => rfl
        | true => have := hiff.2 (hke.1 hh); cases this
      rcases find_ok hk hx l es' (i + 1) h3 with ⟨g1, g2, g3⟩ | ⟨j, e', y0, g1, g2, g3, g4, g5, g6⟩
      · refine .inl ⟨?_, ?_, fun y => ?_⟩
        · simp only [getK, hq]; exact g1
        · simp [Instr.findNow, hr, g2]
        · simp only [putK, hq, g3, List.cons_append]
      · refine .inr ⟨j + 1, e', y0, ?_, ?_, by simpa using g3, g4, g5, fun y => ?_⟩
        · simp only [getK, hq]; exact g1
        · simp only [Instr.findNow, hr, g2]
          rw [show i + 1 + j = i + (j + 1) by omega]
        · simp only [putK, hq, g6, List.set_cons_succ]

omit [GTab] in
theorem LF.append {α β : Type} {R : α → β → Prop} {a : α} {b : β} (h : R a b) : ∀ (l : List α) (m : List β), LF R l m → LF R (l ++ [a]) (m ++ [b])
  | [], m, e => by rw [show m = [] from e]; exact ⟨b, [], rfl, h, rfl⟩
  | x :: l, m, e => by
    obtain ⟨y, m', rfl, h1, h2⟩ := e
    exact ⟨y, m' ++ [b], rfl, h1, LF.append h l m' h2⟩
omit [GTab] in
theorem LF.modify {α β : Type} {R : α → β → Prop} {a : α} {f : β → β} : ∀ (l : List α) (m : List β) (j : Nat), LF R l m → (∀ e, m[j]? = some e → R a (f e)) → LF R (l.set j a) (m.modify j f)
  | [], m, j, e, _ => by rw [show m = [] from e]; cases j <;> rfl
  | x :: l, m, j, e, hf => by
    obtain ⟨y, m', rfl, h1, h2⟩ := e
    cases j with
    | zero => exact ⟨f y, m', by simp [List.modify], hf y rfl, h2⟩
    | succ j => exact ⟨y, m'.modify j f, by simp [List.modify], h1, LF.modify l m' j h2 (fun e he => hf e (by simpa using he))⟩

omit [GTab] in
theorem mapTys_ok {P : Program} {D : TI} (gd : Good P D) {T : TypeId} {K V : Ty} (h : mapTys D T = some (K, V)) :
    ∃ k v, P.underlying T = some (.map k v) ∧ D.ty k = some K ∧ D.ty v = some V ∧ K.isKey = true := by
  simp only [mapTys, Option.bind_eq_some_iff] at h
  obtain ⟨⟨k, v⟩, hm, K', hK, V', hV, h⟩ := h
  split at h
  · rename_i hk
    cases h
    have := gd.mp T
    unfold chkMp at this
    rw [hm] at this
    dsimp only at this
    split at this
    · rename_i k' v' hd
      simp only [Bool.and_eq_true, decide_eq_true_eq] at this
      obtain ⟨rfl, rfl⟩ := this
      exact ⟨_, _, hd, hK, hV, hk⟩
    · cases this
  · cases h

omit [GTab] in
theorem Blk.ents_ok {e : Loc} {E : Env} {b : Blk} {w : World} {K V : Ty} {l : List (K.I × V.I)} (hb : BR e E b w) (hr : e.st = .real) (h : b.ents K V = some l) :
    e.rw = true ∧ ∃ es clock, w.heap[e.blk]? = some (.map es clock) ∧ LF (MapE E (.cons K (.last V))) l es.toList := by
  unfold Blk.ents at h
  split at h
  · rename_i hm
    unfold BR at hb
    rw [hr] at hb
    dsimp only at hb
    rw [hm] at hb
    obtain ⟨h0, es, clk, h1, h2⟩ := hb
    have := AV.as_eq h
    obtain ⟨ro, one, t, xs⟩ := b
    simp only [AV.mk.injEq, Ty.arr.injEq, true_and] at this
    obtain ⟨ht, hx⟩ := this
    subst ht
    cases hx
    exact ⟨h0, es, clk, h1, h2⟩
  · cases h

section
variable {P : Program} {D : TI} (gd : Good P D) {ρ : Operand → SV} {ρc : Operand → Value} {m : Nat} {E : Env} (hρ : ∀ x, SR E (ρ x) (ρc x)) {L : Nat → Option Blk} {w : World} (H : HR E L w)
  (ty : TypeId) (pos : String) (after : Array Edge) (gu : Option (Nat × Bool)) (dst : Option Tmp) {e : Eff}

include H in
theorem makeMap_ok (hm : (E m).st = .dead) {T : TypeId} (he : opE D ρ L m (.makeMap T none) = some e) : OpOk P ρc ⟨dst, .makeMap T none, ty, pos, after, gu⟩ m E L w e := by
  simp only [opE, makeMapE, Option.map_eq_some_iff] at he
  obtain ⟨⟨K, V⟩, hT, rfl⟩ := he
  let l : Loc := ⟨w.heap.size, 0, 0, .real, true⟩
  have hold : ∀ k, k < w.heap.size → (w.alloc (.map #[] 0)).heap[k]? = w.heap[k]? := fun k hk => heap_alloc_old w _ k hk
  refine ⟨.map (some w.heap.size), w.alloc (.map #[] 0), updE E m l, .inl ?_, AR.mkRef ?_ rfl, H.new hm ?_ (Nat.le_refl _) hold, Fr.ofNew hm (Nat.le_refl _) (by show w.heap.size ≤ (w.heap.push _).size; rw [Array.size_push]; omega) hold rfl rfl rfl, fun i hi => ?_⟩
  · rfl
  · exact ⟨by simp [updE, l], by simp [updE, l]⟩
  · show BR l _ _ _
    exact ⟨rfl, #[], 0, heap_alloc_new w _, rfl⟩
  · by_cases e : i = m
    · exact .inr ⟨by simp [e], Nat.le_of_eq e.symm⟩
    · have : updE E m l i = E i := by simp [updE, e]
      rw [this] at hi; exact .inl hi

include gd hρ H in
theorem lookup_ok {T : TypeId} {x i : Operand} {ok : Bool} (he : opE D ρ L m (.lookup T x i ok) = some e) (hp : allP e.pre) : OpOk P ρc ⟨dst, .lookup T x i ok, ty, pos, after, gu⟩ m E L w e := by
  simp only [opE, Option.bind_eq_some_iff, Option.map_eq_some_iff] at he
  obtain ⟨⟨ps, r⟩, hr, ⟨qs, a⟩, ha, e', he, rfl⟩ := he
  simp only [allP_append] at hp
  obtain ⟨hv, -⟩ := svR_ok hr hp.1.1 (hρ x)
  have hav := SV.val_ok ha hp.1.2 (hρ i)
  simp only [lookupE, Option.bind_eq_some_iff] at he
  obtain ⟨⟨K, V⟩, hT, z, hz, he⟩ := he
  obtain ⟨k, v, hu, hK, hV, hkey⟩ := mapTys_ok gd hT
  obtain ⟨d, hd⟩ := keyOk gd hK hkey
  have hza := AV.as_eq hz
  subst hza
  split at he
  · rename_i b
    simp only [Option.bind_eq_some_iff, Option.map_eq_some_iff] at he
    obtain ⟨B, hB, l, hl, he⟩ := he
    simp only [VR] at hv
    obtain ⟨hst, hv⟩ := hv
    obtain ⟨-, es, clk, h1, h2⟩ := Blk.ents_ok (H.blk b B hB) hst hl
    obtain ⟨zv, hz1, hz2⟩ := run_zero gd hV w
    have hck : (Instr.checkKey es.isEmpty 10000 k (ρc i)).run P w = .ok () w := MapKept.run_checkKey (P := P) (w := w) hd.u (hd.isK E z _ hav) es.isEmpty 9999
    have hgo := MapKept.run_getObj_map (P := P) h1
    have key : ∃ u b', (match getK K V l z with | some y => AR E ⟨V, y⟩ u ∧ b' = true | none => AR E ⟨V, V.dflt⟩ u ∧ b' = false) ∧ (Instr.lookup T (ρc x) (ρc i) ok).run P w = .ok (if ok then .tuple #[u, .bool b'] else u) w := by
      rcases find_ok hd hav l es.toList 0 h2 with ⟨g1, g2, -⟩ | ⟨j, e1, y0, g1, g2, g3, g4, g5, -⟩
      · refine ⟨zv, false, by rw [g1]; exact ⟨hz2 E, rfl⟩, ?_⟩
        cases ok <;> simp [Instr.lookup, run_underlying hu, hv, hgo, Result.andThen, hck, MapKept.run_findKey hd.u g2, hz1]
      · refine ⟨e1.val, true, by rw [g1]; exact ⟨g5, rfl⟩, ?_⟩
        cases ok <;> simp [Instr.lookup, run_underlying hu, hv, hgo, Result.andThen, hck, MapKept.run_findKey hd.u g2]
    obtain ⟨u, b', hu', hrun⟩ := key
    have hR : AR E ⟨V, getE (getK K V l z)⟩ u ∧ b' = hasE (getK K V l z) := by
      cases hg : getK K V l z with
      | some y => rw [hg] at hu'; exact hu'
      | none => rw [hg] at hu'; exact hu'
    cases ok with
    | true =>
      subst he
      refine OpOk.same H (v := .tuple #[u, .bool b']) ?_ ?_ rfl
      · simp [execOp, hrun]
      · exact ⟨#[u, .bool b'], rfl, u, [.bool b'], rfl, hR.1, .bool b', [], rfl, by rw [hR.2]; rfl, rfl⟩
    | false =>
      subst he
      refine OpOk.same H (v := u) ?_ hR.1 rfl
      simp [execOp, hrun]
  · cases he

include gd hρ H in
theorem updateE_ok {T : TypeId} {x i y : Operand} {ps qs ss : List Prop} {r : Ref} {a c : AV} (hr : svR (ρ x) = some (ps, r)) (ha : (ρ i).val = some (qs, a)) (hc : (ρ y).val = some (ss, c)) (he : updateE D L T r a c = some e) (hp : allP ps ∧ allP qs ∧ allP ss) :
    ∃ w', (Instr.mapUpdate T (ρc x) (ρc i) (ρc y)).run P w = .ok () w' ∧ HR E (updL L e.upd) w' ∧ Fr E w E w' ∧ e.v = .any := by
  obtain ⟨hv, -⟩ := svR_ok hr hp.1 (hρ x)
  have hav := SV.val_ok ha hp.2.1 (hρ i)
  have hcv := SV.val_ok hc hp.2.2 (hρ y)
  simp only [updateE, Option.bind_eq_some_iff] at he
  obtain ⟨⟨K, V⟩, hT, z, hz, u, hu2, he⟩ := he
  obtain ⟨k, v, hu, hK, hV, hkey⟩ := mapTys_ok gd hT
  obtain ⟨d, hd⟩ := keyOk gd hK hkey
  have hza := AV.as_eq hz
  subst hza
  have hua := AV.as_eq hu2
  subst hua
  split at he
  · rename_i b
    simp only [Option.bind_eq_some_iff, Option.map_eq_some_iff] at he
    obtain ⟨B, hB, l, hl, rfl⟩ := he
    simp only [VR] at hv
    obtain ⟨hst, hv⟩ := hv
    obtain ⟨hrw, es, clk, h1, h2⟩ := Blk.ents_ok (H.blk b B hB) hst hl
    have hck : (Instr.checkKey false 10000 k (ρc i)).run P w = .ok () w := MapKept.run_checkKey (P := P) (w := w) hd.u (hd.isK E z _ hav) false 9999
    have hgo := MapKept.run_getObj_map (P := P) h1
    have fin : ∀ o, (∃ es' clk', o = Obj.map es' clk' ∧ LF (MapE E (.cons K (.last V))) (putK K V l z u) es'.toList) →
        HR E (updL L [(b, some ⟨true, true, .cons K (.last V), putK K V l z u⟩)]) { w with heap := w.heap.setIfInBounds (E b).blk o } ∧ Fr E w E { w with heap := w.heap.setIfInBounds (E b).blk o } := by
      rintro o ⟨es', clk', rfl, hl'⟩
      have hlt : (E b).blk < w.heap.size := by
        rcases Nat.lt_or_ge (E b).blk w.heap.size with hh | hh
        · exact hh
        · rw [Array.getElem?_eq_none hh] at h1; cases h1
      have hne : ∀ k, k ≠ (E b).blk → (w.heap.setIfInBounds (E b).blk (.map es' clk'))[k]? = w.heap[k]? := fun k hk => Array.getElem?_setIfInBounds_ne (Ne.symm hk)
      refine ⟨H.put hB hst hrw ?_ hne, Fr.ofPut hst hrw (by simp) hne rfl rfl rfl⟩
      unfold BR
      rw [hst]
      exact ⟨hrw, es', clk', by show (w.heap.setIfInBounds (E b).blk _)[(E b).blk]? = _; rw [Array.getElem?_setIfInBounds_self_of_lt hlt], hl'⟩
    rcases find_ok hd hav l es.toList 0 h2 with ⟨g1, g2, g3⟩ | ⟨j, e1, y0, g1, g2, g3, g4, g5, g6⟩
    · obtain ⟨f1, f2⟩ := fin (.map (es.push { key := ρc i, val := ρc y, born := clk }) (clk + 1)) ⟨_, _, rfl, by
        rw [g3, Array.toList_push]
        exact LF.append ⟨hkey, hav, hcv⟩ _ _ h2⟩
      refine ⟨_, ?_, f1, f2, rfl⟩
      simp [Instr.mapUpdate, run_underlying hu, hv, hgo, Result.andThen, hck, MapKept.run_findKey hd.u g2, MapKept.run_setObj_map _ h1]
    · rw [Nat.zero_add] at g2
      have hj : es[j]? = some e1 := by rw [← Array.getElem?_toList]; exact g3
      obtain ⟨f1, f2⟩ := fin (.map (es.modify j fun e => { e with key := ρc i, val := ρc y }) clk) ⟨_, _, rfl, by
        rw [g6, Array.toList_modify]
        exact LF.modify _ _ _ h2 (fun e _ => ⟨hkey, hav, hcv⟩)⟩
      refine ⟨_, ?_, f1, f2, rfl⟩
      simp [Instr.mapUpdate, run_underlying hu, hv, hgo, Result.andThen, hck, MapKept.run_findKey hd.u g2, hj, g4, MapKept.run_keyThatStays (hd.isK E z _ hav), MapKept.run_setObj_map _ h1]
  · cases he

include gd hρ H in
theorem mapUpdate_ok {T : TypeId} {x i y : Operand} (he : opE D ρ L m (.mapUpdate T x i y) = some e) (hp : allP e.pre) : OpOk P ρc ⟨dst, .mapUpdate T x i y, ty, pos, after, gu⟩ m E L w e := by
  simp only [opE, Option.bind_eq_some_iff, Option.map_eq_some_iff] at he
  obtain ⟨⟨ps, r⟩, hr, ⟨qs, a⟩, ha, ⟨ss, c⟩, hc, e', he, rfl⟩ := he
  simp only [allP_append] at hp
  obtain ⟨w', h1, h2, h3, h4⟩ := updateE_ok gd hρ H hr ha hc he ⟨hp.1.1.1, hp.1.1.2, hp.1.2⟩
  refine ⟨undef, w', E, .inr ⟨by simp [execOp, h1], rfl⟩, ?_, h2, h3, fun i hi => .inl hi⟩
  show SR E e'.v undef
  rw [h4]; trivial
include gd hρ H in
theorem insert_ok {T : TypeId} {x i y : Operand} (he : opE D ρ L m (.insert T x i y) = some e) (hp : allP e.pre) : OpOk P ρc ⟨dst, .insert T x i y, ty, pos, after, gu⟩ m E L w e := by
  simp only [opE, Option.bind_eq_some_iff, Option.map_eq_some_iff] at he
  obtain ⟨⟨ps, r⟩, hr, ⟨qs, a⟩, ha, ⟨ss, c⟩, hc, e', he, rfl⟩ := he
  simp only [allP_append] at hp
  obtain ⟨w', h1, h2, h3, h4⟩ := updateE_ok gd hρ H hr ha hc he ⟨hp.1.1.1, hp.1.1.2, hp.1.2⟩
  refine ⟨undef, w', E, .inr ⟨by simp [execOp, h1], rfl⟩, ?_, h2, h3, fun i hi => .inl hi⟩
  show SR E e'.v undef
  rw [h4]; trivial
end
end Go.SL

/- S-logic, part 16: conversions; all operations. -/
namespace Go.SL
open Go
variable [GTab]

section
variable {P : Program} {D : TI} (gd : Good P D) {ρ : Operand → SV} {ρc : Operand → Value} {m : Nat} {E : Env} (hρ : ∀ x, SR E (ρ x) (ρc x)) {L : Nat → Option Blk} {w : World} (H : HR E L w) (hm : (E m).st = .dead)
  (ty : TypeId) (pos : String) (after : Array Edge) (gu : Option (Nat × Bool)) (dst : Option Tmp) {e : Eff}


omit [GTab] in
theorem u8_in (b : UInt8) : IntKind.u8.min ≤ (b.toNat : Int) ∧ (b.toNat : Int) ≤ IntKind.u8.max := by
  have h := b.toNat_lt
  have e1 : IntKind.u8.min = 0 := rfl
  have e2 : IntKind.u8.max = 255 := rfl
  rw [e1, e2]
  omega

omit [GTab] in
theorem u8_back (y : Int) (h1 : IntKind.u8.min ≤ y) (h2 : y ≤ IntKind.u8.max) : ((UInt8.ofNat y.toNat).toNat : Int) = y := by
  have e1 : IntKind.u8.min = 0 := rfl
  have e2 : IntKind.u8.max = 255 := rfl
  rw [e1] at h1
  rw [e2] at h2
  rw [UInt8.toNat_ofNat']
  omega

omit [GTab] in
theorem bytes_CR (E : Env) : ∀ l : List UInt8, LR (CR E (.int .u8)) (l.map fun b => ((b.toNat : Int))) (l.map fun b => Value.int .u8 b.toNat)
  | [] => rfl
  | b :: l => ⟨[.int .u8 b.toNat], l.map fun b => Value.int .u8 b.toNat, rfl, ⟨rfl, (u8_in b).1, (u8_in b).2⟩, bytes_CR E l⟩

omit [GTab] in
theorem bytes_back (E : Env) : ∀ (ys : List Int) (cs : List Value), LR (CR E (.int .u8)) ys cs → cs = (ys.map fun n => UInt8.ofNat n.toNat).map fun b => Value.int .u8 b.toNat
  | [], cs, h => by simpa [LR] using h
  | y :: ys, cs, h => by
    obtain ⟨c1, c2, rfl, ⟨rfl, h1, h2⟩, h3⟩ := h
    rw [bytes_back E ys c2 h3]
    simp only [List.map_cons, u8_back y h1 h2, List.cons_append, List.nil_append]

include gd H in
theorem convE_ok {S T : TypeId} {a : AV} {u : Value} (hm : m ∈ e.upd.map (·.1) → (E m).st = .dead) (he : convE D L m S T a = some e) (hp : allP e.pre) (ha : AR E a u) :
    ∃ v w' E', (convert S T u).run P w = .ok v w' ∧ SR E' e.v v ∧ HR E' (updL L e.upd) w' ∧ Fr E w E' w' ∧ (∀ i, (E' i).st ≠ .dead → (E i).st ≠ .dead ∨ (i ∈ e.upd.map (·.1) ∧ m ≤ i)) := by
  unfold convE at he
  split at he
  · rename_i k n k' t0 hT hS
    cases he
    obtain ⟨_, ds, _, _, hds, -⟩ := gd.info hS
    obtain ⟨rfl, _⟩ := AR.int ha
    obtain ⟨_, d, _, _, hd, -, -, -, hx⟩ := gd.info hT
    cases d <;> simp only [descOk, Bool.false_eq_true, decide_eq_true_eq] at hx
    subst hx
    refine ⟨.int k' (k'.wrap n), w, E, ?_, wf_int (E := E), H, Fr.refl E w, fun i hi => .inl hi⟩
    simp only [convert, Sem.run_bind, run_underlying hd, run_underlying hds, Result.andThen_ok]
    cases ds <;> simp [Conv.intToInt]
  · rename_i s t0 hT hS
    cases he
    obtain ⟨_, ds, _, _, hds, -⟩ := gd.info hS
    obtain ⟨rfl, hs⟩ := AR.str ha
    obtain ⟨_, d, _, _, hd, -, -, -, hx⟩ := gd.info hT
    cases d <;> simp only [descOk, Bool.false_eq_true] at hx
    refine ⟨.string s, w, E, ?_, AR.mkStr (E := E) hs, H, Fr.refl E w, fun i hi => .inl hi⟩
    simp only [convert, Sem.run_bind, run_underlying hd, run_underlying hds, Result.andThen_ok]
    cases ds <;> simp
  · rename_i kk r t0 hT hS
    split at he
    · rename_i hsl
      simp only [Option.bind_eq_some_iff] at hsl
      obtain ⟨el, hse, hte⟩ := hsl
      obtain ⟨ie, hue, hie, _⟩ := gd.slice hse
      obtain ⟨_, de, _, _, hde, -, -, -, hxe⟩ := gd.info hte
      cases de <;> simp only [descOk, Bool.false_eq_true, decide_eq_true_eq] at hxe
      subst hxe
      obtain ⟨_, d, _, _, hd, -, -, -, hx⟩ := gd.info hT
      cases d <;> simp only [descOk, Bool.false_eq_true] at hx
      simp only [Option.map_eq_some_iff] at he
      obtain ⟨⟨ps, ys, f⟩, he, rfl⟩ := he
      have hvr := (AR.ref ha).1
      obtain ⟨ad, cap, cs, rfl, hcs, hnone, hcell⟩ := elsE_ok H he hp hvr
      have hc := bytes_back E ys cs hcs
      have hsz : (bytesOf ys).size ≤ big := by
        have h1 : (bytesOf ys).size = ys.length := by simp [bytesOf, ByteArray.size]
        rw [h1]
        have he := he
        unfold elsE at he
        split at he
        · cases he; simp
        · simp only [Option.bind_eq_some_iff] at he
          obtain ⟨k, hk, he⟩ := he
          split at he
          · simp only [Option.map_eq_some_iff, Prod.mk.injEq] at he
            obtain ⟨⟨qs, l⟩, h1, rfl, rfl, rfl⟩ := he
            simp only [VR] at hvr
            rcases hvr with ⟨_, hn, _, hv⟩ | ⟨_, cap', a', hv, h2, h3, _⟩
            · simp only [Value.slice.injEq] at hv
              rw [hv.2.1]; exact Nat.zero_le _
            · simp only [Value.slice.injEq] at hv
              rw [hv.2.1]; omega
          · cases he
        · cases he
      refine ⟨.string (bytesOf ys), w, E, ?_, AR.mkStr (E := E) hsz, H, Fr.refl E w, fun i hi => .inl hi⟩
      cases ad with
      | none =>
        rw [hnone rfl]
        exact run_convert_bytes_nil w S el hue hde _ _ T hd
      | some x =>
        have := run_convert_bytes_back w S T el x cap (ys.map fun n => UInt8.ofNat n.toNat) hue hde hd (fun j hj => by
          apply hcell x rfl
          rw [hc]
          simp [List.getElem?_eq_getElem (show j < ys.length by simpa using hj)])
        rw [List.length_map] at this
        exact this
    · cases he
  · rename_i s hT hS
    split at he
    · rename_i hsl
      simp only [Option.bind_eq_some_iff] at hsl
      obtain ⟨el, hse, hte⟩ := hsl
      obtain ⟨ie, hue, hie, _⟩ := gd.slice hse
      obtain ⟨_, de, _, _, hde, -, -, -, hxe⟩ := gd.info hte
      cases de <;> simp only [descOk, Bool.false_eq_true, decide_eq_true_eq] at hxe
      subst hxe
      obtain ⟨_, d, _, _, hd, -, -, -, hx⟩ := gd.info hS
      cases d <;> simp only [descOk, Bool.false_eq_true] at hx
      cases he
      obtain ⟨rfl, hs⟩ := AR.str ha
      have hm := hm (by simp)
      have hrun := run_bytes_of_string (P := P) w S T el s hd hue hde
      generalize hC : bytesRow s (grownCap w (ByteArray.size s) 0 el) = C at hrun
      have hcl : C.toList = (s.data.toList.map fun b => Value.int .u8 b.toNat) ++ (Array.replicate (grownCap w (ByteArray.size s) 0 el - ByteArray.size s) (Value.int .u8 0)).toList := by
        rw [← hC]; simp [bytesRow]
      have hge := grownCap_ge w (ByteArray.size s) 0 el
      have hsz : C.size = grownCap w (ByteArray.size s) 0 el := by
        rw [← Array.length_toList, hcl]
        simp only [List.length_append, List.length_map, Array.length_toList, Array.size_replicate]
        have h0 : s.data.size = ByteArray.size s := rfl
        rw [h0]; omega
      let l : Loc := ⟨w.heap.size, 0, C.size, .real, true⟩
      have hw : ∀ k, k < w.heap.size → (w.drew.alloc (.cells C el (C.size, C.size + 1))).heap[k]? = w.heap[k]? := fun k hk => heap_alloc_old w.drew _ k hk
      refine ⟨_, _, updE E m l, hrun, AR.mkRef ?_ rfl, H.new hm ?_ (Nat.le_refl _) hw, Fr.ofNew hm (Nat.le_refl _) (by show w.heap.size ≤ (w.heap.push _).size; rw [Array.size_push]; omega) hw rfl rfl rfl, fun i hi => ?_⟩
      · simp only [VR]
        right
        refine ⟨by simp [updE, l], _, 0, by simp [updE, l], hge, ?_, .inr ⟨by simp [updE, l, offp], by simp [updE, l, hsz, offp, esz, subt, Ty.size]⟩⟩
        exact grownCap_le_maxLen w _ _ _ (by simp only [big] at hs; simp only [maxLen]; omega)
      · refine BR.ofCells ?_ (by simp [l]) (Blk.notMap rfl)
        show BC _ _ _ _
        refine ⟨C, el, (C.size, C.size + 1), heap_alloc_new w.drew _, by simp [l], ⟨[], s.data.toList.map fun b => Value.int .u8 b.toNat, _, by rw [hcl]; rfl, rfl, bytes_CR _ s.data.toList⟩, fun _ => ⟨rfl, fun o _ h2 => by omega⟩⟩
      · by_cases ei : i = m
        · exact .inr ⟨by simp [ei], Nat.le_of_eq ei.symm⟩
        · simp only [updE, ei, if_false] at hi; exact .inl hi
    · cases he
  · cases he

include gd hρ H in
theorem convert_ok (S T : TypeId) (x : Operand) (he : opE D ρ L m (.convert S T x) = some e) (hp : allP e.pre) (hm : m ∈ e.upd.map (·.1) → (E m).st = .dead) : OpOk P ρc ⟨dst, .convert S T x, ty, pos, after, gu⟩ m E L w e := by
  simp only [opE, Option.bind_eq_some_iff, Option.map_eq_some_iff] at he
  obtain ⟨⟨ps, a⟩, ha, e', hc, rfl⟩ := he
  simp only [allP_append] at hp
  obtain ⟨v, w', E', h1, h2, h3, h4, h5⟩ := convE_ok (e := e') gd H hm hc hp.2 (SV.val_ok ha hp.1 (hρ x))
  exact ⟨v, w', E', .inl (by simp [execOp, h1]), h2, h3, h4, h5⟩

omit [GTab] in
theorem ARs.length {E : Env} : ∀ {as : List AV} {vs : List Value}, ARs E as vs → vs.length = as.length
  | [], vs, h => by rw [show vs = [] from h]; rfl
  | a :: as, vs, h => by
    obtain ⟨v, vs', rfl, -, h2⟩ := h
    simp [ARs.length h2]

theorem buildSlice_m {T : TypeId} {n : Nat} {ps : Array (Nat × Operand)} (he : opE D ρ L m (.buildSlice T n ps) = some e) : m ∈ e.upd.map (·.1) := by
  simp only [opE, Option.bind_eq_some_iff] at he
  obtain ⟨t, -, q, -, y, -, he⟩ := he
  split at he
  · simp only [Option.map_eq_some_iff] at he
    obtain ⟨z, -, rfl⟩ := he; simp
  · cases he

omit [GTab] in
theorem appE_m {T : TypeId} {s x : Ref} {e : Eff} (he : appE D L m T s x = some e) : m ∈ e.upd.map (·.1) := by
  simp only [appE, Option.bind_eq_some_iff] at he
  obtain ⟨el, -, t, -, ⟨ps, ys, fx⟩, -, he⟩ := he
  dsimp only at he
  split at he
  · split at he
    · cases he
    · cases he; simp
  · simp only [Option.bind_eq_some_iff] at he
    obtain ⟨k, -, he⟩ := he
    split at he
    · simp only [Option.map_eq_some_iff] at he
      obtain ⟨⟨qs, l⟩, -, rfl⟩ := he; simp
    · cases he
  · cases he

include gd hρ H in
theorem builtin_ok (b : Builtin) (args : Array Operand) (ats : Array TypeId) (he : opE D ρ L m (.call { callee := .builtin b, args := args, argTypes := ats }) = some e) (hp : allP e.pre) (hm : m ∈ e.upd.map (·.1) → (E m).st = .dead) :
    OpOk P ρc ⟨dst, .call { callee := .builtin b, args := args, argTypes := ats }, ty, pos, after, gu⟩ m E L w e := by
  simp only [opE, Option.bind_eq_some_iff] at he
  obtain ⟨⟨ps, as⟩, ha, he⟩ := he
  dsimp only at he
  have run : ∀ (r : Sem Value) (v : Value) (w' : World), builtin b ats ty (args.map fun | .const _ => true | _ => false) (args.map ρc) = (do pure (.value (← r))) → r.run P w = .ok v w' →
      (execOp ρc ⟨dst, .call { callee := .builtin b, args := args, argTypes := ats }, ty, pos, after, gu⟩).run P w = .ok (.value v) w' := by
    intro r v w' h1 h2
    have : execOp ρc ⟨dst, .call { callee := .builtin b, args := args, argTypes := ats }, ty, pos, after, gu⟩ = builtin b ats ty (args.map fun | .const _ => true | _ => false) (args.map ρc) := rfl
    rw [this, h1]
    simp [h2]
  have hv0 : allP ps → ARs E as (args.map ρc).toList := fun h => by rw [Array.toList_map]; exact vals_ok ρ ρc hρ _ _ _ ha h
  have hat : ats = ats.toList.toArray := rfl
  have har : args.map ρc = (args.map ρc).toList.toArray := rfl
  split at he
  · rename_i a T hT
    simp only [Option.map_eq_some_iff] at he
    obtain ⟨v, hl, rfl⟩ := he
    obtain ⟨u, us, hu, h1, h2⟩ := hv0 hp
    cases us with
    | cons _ _ => obtain ⟨⟩ := h2
    | nil =>
      obtain ⟨r, h3, h4⟩ := lenE_ok gd (w := w) (ty := ty) hl h1
      refine OpOk.same H (v := r) (run (Builtin.len_ #[T] ty #[u]) r w ?_ h3) h4 rfl
      rw [hat, har, hu, hT]; rfl
  · rename_i hmx
    simp only [Option.map_eq_some_iff] at he
    obtain ⟨v, hl, rfl⟩ := he
    obtain ⟨r, h3, h4⟩ := maxE_ok (P := P) (w := w) (b := true) hl (hv0 hp)
    refine OpOk.same H (v := r) (run (Builtin.max_ ats ty (args.map ρc)) r w rfl h3) h4 rfl
  · rename_i hmx
    simp only [Option.map_eq_some_iff] at he
    obtain ⟨v, hl, rfl⟩ := he
    obtain ⟨r, h3, h4⟩ := maxE_ok (P := P) (w := w) (b := false) hl (hv0 hp)
    refine OpOk.same H (v := r) (run (Builtin.min_ ats ty (args.map ρc)) r w rfl (by
      simp only [Bool.false_eq_true, if_false] at h3
      unfold Builtin.min_
      revert h3
      cases (Array.map ρc args).toList with
      | nil => intro h3; simp [stuck] at h3
      | cons u us => exact id)) h4 rfl
  · rename_i s x T T' hT
    split at he
    · rename_i hTT
      have hTT := of_decide_eq_true hTT
      subst hTT
      simp only [Option.map_eq_some_iff] at he
      obtain ⟨e', hl, rfl⟩ := he
      have hm := hm (show m ∈ e'.upd.map (·.1) from appE_m hl)
      simp only [allP_append] at hp
      obtain ⟨u, us, hu, h1, u', us', hu', h2, h3⟩ := hv0 hp.1
      cases us' with
      | cons _ _ => obtain ⟨⟩ := h3
      | nil =>
        subst hu'
        obtain ⟨v, w', E', h4, h5, h6, h7, h8⟩ := appE_ok gd (ty := ty) (_T' := T') H hm (fun b k hb e => (H.blk b k hb).notDead (e ▸ hm)) hl hp.2 (AR.ref h1).1 (AR.ref h2).1
        refine ⟨v, w', E', .inl (run (Builtin.append_ #[T', T'] ty #[u, u']) v w' ?_ h4), h5, h6, h7, h8⟩
        rw [hat, har, hu, hT]; rfl
    · cases he
  · rename_i s x T T' hT
    split at he
    · rename_i hTT
      have hTT := of_decide_eq_true hTT
      subst hTT
      simp only [Option.map_eq_some_iff] at he
      obtain ⟨e', hl, rfl⟩ := he
      simp only [allP_append] at hp
      obtain ⟨u, us, hu, h1, u', us', hu', h2, h3⟩ := hv0 hp.1
      cases us' with
      | cons _ _ => obtain ⟨⟩ := h3
      | nil =>
        subst hu'
        obtain ⟨v, w', h4, h5, h6, h7⟩ := copyE_ok gd (ty := ty) H hl hp.2 (AR.ref h1).1 (AR.ref h2).1
        refine ⟨v, w', E, .inl (run (Builtin.copy_ #[T', T'] ty #[u, u']) v w' ?_ h4), h5, h6, h7, fun i hi => .inl hi⟩
        rw [hat, har, hu, hT]; rfl
    · cases he
  · cases he

include gd hρ H in
theorem opE_ok (hgv : ∀ g, ρc (.global g) = .pointer (some ⟨g, 0, none⟩)) (op : Op) (he : opE D ρ L m op = some e) (hp : allP e.pre) (hm : m ∈ e.upd.map (·.1) → (E m).st = .dead) : OpOk P ρc ⟨dst, op, ty, pos, after, gu⟩ m E L w e := by
  cases op with
  | move x => exact move_ok hρ H ty pos after gu dst x he
  | assign x => exact assign_ok hρ H ty pos after gu dst x he
  | pick c a b => exact pick_ok hρ H ty pos after gu dst c a b he hp
  | alloc T => exact alloc_ok gd T ty pos after gu dst H (hm (by have he := he; simp only [opE, Option.map_eq_some_iff] at he; obtain ⟨t, -, rfl⟩ := he; simp)) ρ he
  | box T x => exact box_ok T ty pos after gu dst H (hm (by have he := he; simp only [opE, Option.bind_eq_some_iff, Option.map_eq_some_iff] at he; obtain ⟨t, -, q, -, y, -, rfl⟩ := he; simp)) hρ he hp
  | build T ps => exact build_ok gd hρ H ty pos after gu dst T ps he hp
  | buildSlice T n ps => exact buildSlice_ok gd hρ H (hm (buildSlice_m he)) ty pos after gu dst T n ps he hp
  | load T x => exact load_ok gd T ty pos after gu dst hgv H hρ he hp
  | store T x y => exact store_ok gd T ty pos after gu dst H hρ he hp
  | nilCheck x => exact nilCheck_ok hρ H ty pos after gu dst x he hp
  | binOp o T x y U => exact binOp_ok gd hρ H ty pos after gu dst o T U x y he hp
  | unOp o T x => exact unOp_ok hρ H ty pos after gu dst o T x he hp
  | convert S T x => exact convert_ok gd hρ H ty pos after gu dst S T x he hp hm
  | sliceToArrayPointer T x => exact s2ap_ok gd hρ H ty pos after gu dst T x he hp
  | makeInterface T x => exact makeInterface_ok gd hρ H ty pos after gu dst T x he hp
  | typeAssert x U T ok => exact typeAssert_ok gd hρ H ty pos after gu dst x U T ok he hp
  | makeFunc f a c => exact makeFunc_ok hρ H ty pos after gu dst f a c he hp
  | makeSlice T x y => exact makeSlice_ok gd hρ H (hm (by have he := he; simp only [opE, Option.bind_eq_some_iff, Option.map_eq_some_iff] at he; obtain ⟨t, -, q, -, y, -, z, -, rfl⟩ := he; simp)) ty pos after gu dst T x y he hp
  | slice T x lo hi mx => exact slice_ok gd hρ H ty pos after gu dst T x lo hi mx he hp
  | fieldAddr T x f => exact fieldAddr_ok gd hρ H ty pos after gu dst T x f he hp
  | field T x f => exact field_ok gd hρ H ty pos after gu dst T x f he hp
  | indexAddr T x i => exact indexAddr_ok gd hρ H ty pos after gu dst hgv T x i he hp
  | index T x i => exact index_ok gd hρ H ty pos after gu dst T x i he hp
  | extract x i => exact extract_ok hρ H ty pos after gu dst x i he
  | makeMap T r =>
    cases r with
    | none => exact makeMap_ok H ty pos after gu dst (hm (by have he := he; simp only [opE, makeMapE, Option.map_eq_some_iff] at he; obtain ⟨t, -, rfl⟩ := he; simp)) he
    | some r => simp only [opE] at he; cases he
  | lookup T x i ok => exact lookup_ok gd hρ H ty pos after gu dst he hp
  | mapUpdate T x i y => exact mapUpdate_ok gd hρ H ty pos after gu dst he hp
  | insert T x i y => exact insert_ok gd hρ H ty pos after gu dst he hp
  | call c =>
    obtain ⟨callee, args, ats⟩ := c
    cases callee with
    | builtin b => exact builtin_ok gd hρ H ty pos after gu dst b args ats he hp hm
    | _ => simp only [opE] at he; cases he
  | _ => simp only [opE] at he; cases he

end
end Go.SL

/- S-logic, part 17: calls. -/
namespace Go.SL
open Go
variable [GTab]

/-! ### Renaming, both ways -/

omit [GTab] in
mutual
theorem VR.iff {E E' : Env} {f : Nat → Nat} : ∀ (r : Ref) (v : Value), (∀ b ∈ r.ids, E' (f b) = E b) → (VR E' (r.ren f) v ↔ VR E r v)
  | .nilptr, v, h => by simp [Ref.ren, VR]
  | .nilslice, v, h => by simp [Ref.ren, VR]
  | .nilFunc, v, h => by simp [Ref.ren, VR]
  | .nilIface, v, h => by simp [Ref.ren, VR]
  | .nilmap, v, h => by simp [Ref.ren, VR]
  | .ptr b t p, v, h => by simp only [Ref.ren, VR]; rw [h b (by simp [Ref.ids])]
  | .sub b t p o n, v, h => by simp only [Ref.ren, VR]; rw [h b (by simp [Ref.ids])]
  | .slice b t p o n, v, h => by simp only [Ref.ren, VR]; rw [h b (by simp [Ref.ids])]
  | .func fn a c, v, h => by
    simp only [Ref.ren, VR]
    refine exists_congr fun f' => exists_congr fun c' => and_congr Iff.rfl (and_congr (VRs.iff a _ fun b hb => h b ?_) (VRs.iff c _ fun b hb => h b ?_))
    · simp only [Ref.ids, List.mem_append]; exact .inl hb
    · simp only [Ref.ids, List.mem_append]; exact .inr hb
  | .iface T r, v, h => by
    simp only [Ref.ren, VR]
    exact exists_congr fun x => and_congr Iff.rfl (VR.iff r _ fun b hb => h b (by simpa [Ref.ids] using hb))
  | .map b, v, h => by simp only [Ref.ren, VR]; rw [h b (by simp [Ref.ids])]
  | .int k x, v, h => by simp [Ref.ren, VR]
  | .bool b, v, h => by simp [Ref.ren, VR]
  | .str s, v, h => by simp [Ref.ren, VR]
  | .agg l, v, h => by
    simp only [Ref.ren, VR]
    exact exists_congr fun x => and_congr Iff.rfl (VRs.iff l _ fun b hb => h b (by simpa [Ref.ids] using hb))
theorem VRs.iff {E E' : Env} {f : Nat → Nat} : ∀ (l : List Ref) (vs : List Value), (∀ b ∈ Ref.idsL l, E' (f b) = E b) → (VRs E' (Ref.renL f l) vs ↔ VRs E l vs)
  | [], vs, h => by simp [Ref.renL, VRs]
  | r :: l, vs, h => by
    simp only [Ref.renL, VRs]
    refine exists_congr fun v => exists_congr fun vs' => and_congr Iff.rfl (and_congr (VR.iff r _ fun b hb => h b ?_) (VRs.iff l _ fun b hb => h b ?_))
    · simp only [Ref.idsL, List.mem_append]; exact .inl hb
    · simp only [Ref.idsL, List.mem_append]; exact .inr hb
end

omit [GTab] in
theorem LR.iff {α : Type} {R R' : α → List Value → Prop} {f : α → α} : ∀ (l : List α) (cs : List Value), (∀ x ∈ l, ∀ cs, R' (f x) cs ↔ R x cs) → (LR R' (l.map f) cs ↔ LR R l cs)
  | [], cs, h => Iff.rfl
  | x :: l, cs, h => by
    simp only [List.map_cons, LR]
    refine exists_congr fun c1 => exists_congr fun c2 => and_congr Iff.rfl (and_congr (h x (by simp) _) (LR.iff l _ fun y hy => h y (by simp [hy])))

omit [GTab] in
theorem CR.noRef_iff {E E' : Env} {t : Ty} {x : t.I} {cs : List Value} (h : t.noRef = true) : CR E' t x cs ↔ CR E t x cs := ⟨CR.noRef t x cs h, CR.noRef t x cs h⟩

omit [GTab] in
theorem CR.iff {E E' : Env} {f : Nat → Nat} : ∀ (t : Ty) (x : t.I) (cs : List Value), (∀ b ∈ t.ids x, E' (f b) = E b) → (CR E' t (t.ren f x) cs ↔ CR E t x cs)
  | .int k, x, cs, h => Iff.rfl
  | .bool, x, cs, h => Iff.rfl
  | .str, x, cs, h => Iff.rfl
  | .ref k, x, cs, h => by
    simp only [CR]
    refine exists_congr fun v => and_congr Iff.rfl (and_congr (VR.iff x v h) ?_)
    show (Ref.ren f x).isAgg = false ↔ _
    rw [Ref.ren_isAgg]
  | .unit, x, cs, h => Iff.rfl
  | .arr n t, l, cs, h => by
    cases hn : t.noRef with
    | true =>
      have e : Ty.ren f (.arr n t) l = l := by simp only [Ty.ren, hn]
      rw [e]; exact CR.noRef_iff (t := .arr n t) hn
    | false =>
      have e : Ty.ren f (.arr n t) l = List.map (t.ren f ·) l := by simp only [Ty.ren, hn]
      have e2 : Ty.ids (.arr n t) l = List.flatMap (t.ids ·) l := by simp only [Ty.ids, hn]
      rw [e2] at h
      rw [e]
      simp only [CR, List.length_map]
      exact and_congr Iff.rfl (LR.iff l cs fun x hx cs => CR.iff t x cs fun b hb => h b (List.mem_flatMap.2 ⟨x, hx, hb⟩))
  | .last a, x, cs, h => CR.iff a x cs h
  | .cons a r, x, cs, h => by
    have h' : ∀ b ∈ a.ids x.1 ++ r.ids x.2, E' (f b) = E b := h
    show (∃ c1 c2, _ ∧ CR E' a (a.ren f x.1) c1 ∧ CR E' r (r.ren f x.2) c2) ↔ (∃ c1 c2, _ ∧ CR E a x.1 c1 ∧ CR E r x.2 c2)
    exact exists_congr fun c1 => exists_congr fun c2 => and_congr Iff.rfl (and_congr (CR.iff a x.1 _ fun b hb => h' b (List.mem_append_left _ hb)) (CR.iff r x.2 _ fun b hb => h' b (List.mem_append_right _ hb)))

omit [GTab] in
theorem AR.iff {E E' : Env} {f : Nat → Nat} (a : AV) (v : Value) (h : ∀ b ∈ a.ids, E' (f b) = E b) : AR E' (a.ren f) v ↔ AR E a v := by
  obtain ⟨t, x⟩ := a
  have h' : ∀ b ∈ t.ids x, E' (f b) = E b := h
  unfold AR
  show (match t.agg with | true => ∃ cs : Array Value, v = .agg cs ∧ CR E' t (t.ren f x) cs.toList | false => CR E' t (t.ren f x) [v]) ↔ (match t.agg with | true => ∃ cs : Array Value, v = .agg cs ∧ CR E t x cs.toList | false => CR E t x [v])
  split
  · exact exists_congr fun cs => and_congr Iff.rfl (CR.iff t x _ h')
  · exact CR.iff t x _ h'

omit [GTab] in
theorem ARs.iff {E E' : Env} {f : Nat → Nat} : ∀ (l : List AV) (vs : List Value), (∀ b ∈ l.flatMap AV.ids, E' (f b) = E b) → (ARs E' (l.map (AV.ren f)) vs ↔ ARs E l vs)
  | [], vs, h => Iff.rfl
  | a :: l, vs, h => by
    simp only [List.map_cons, ARs]
    refine exists_congr fun v => exists_congr fun vs' => and_congr Iff.rfl (and_congr (AR.iff a v fun b hb => h b ?_) (ARs.iff l vs' fun b hb => h b ?_))
    · simp [hb]
    · rw [List.flatMap_cons, List.mem_append]; exact .inr hb

omit [GTab] in
theorem Blk.ren_ro (b : Blk) (f : Nat → Nat) : (b.ren f).ro = b.ro := by unfold Blk.ren; split <;> rfl

omit [GTab] in
theorem Blk.ren_isMap (b : Blk) (f : Nat → Nat) : (b.ren f).isMap = b.isMap := by unfold Blk.ren; split <;> rfl
omit [GTab] in
theorem LF.iff {α α' β : Type} {R : α → β → Prop} {R' : α' → β → Prop} {g : α → α'} : ∀ (l : List α) (m : List β), (∀ x ∈ l, ∀ c, R' (g x) c ↔ R x c) → (LF R' (l.map g) m ↔ LF R l m)
  | [], m, _ => Iff.rfl
  | x :: l, m, h => by
    constructor
    · rintro ⟨y, m', rfl, h1, h2⟩
      exact ⟨y, m', rfl, (h x List.mem_cons_self y).1 h1, (LF.iff l m' fun z hz => h z (List.mem_cons_of_mem _ hz)).1 h2⟩
    · rintro ⟨y, m', rfl, h1, h2⟩
      exact ⟨y, m', rfl, (h x List.mem_cons_self y).2 h1, (LF.iff l m' fun z hz => h z (List.mem_cons_of_mem _ hz)).2 h2⟩
omit [GTab] in
theorem AR.iff' {E E' : Env} {f : Nat → Nat} (a : AV) (v : Value) (h : ∀ i ∈ a.ids, E' (f i) = E i) : AR E' (a.ren f) v ↔ AR E a v := by
  unfold AR
  show (match a.t.agg with | true => _ | false => _) ↔ _
  cases ha : a.t.agg with
  | true =>
    dsimp only
    exact exists_congr fun cs => and_congr Iff.rfl (CR.iff a.t a.x cs.toList h)
  | false =>
    dsimp only
    exact CR.iff a.t a.x [v] h
omit [GTab] in
theorem MapE.iff {E E' : Env} {f : Nat → Nat} (t : Ty) (x : t.I) (e : MapEntry) (h : ∀ i ∈ t.ids x, E' (f i) = E i) : MapE E' t (t.ren f x) e ↔ MapE E t x e := by
  match t, x, h with
  | .cons k (.last v), x, h =>
    refine and_congr Iff.rfl (and_congr (AR.iff' ⟨k, x.1⟩ _ fun i hi => h i ?_) (AR.iff' ⟨v, x.2⟩ _ fun i hi => h i ?_))
    · exact List.mem_append_left _ hi
    · exact List.mem_append_right _ hi
  | .int _, _, _ => exact Iff.rfl
  | .bool, _, _ => exact Iff.rfl
  | .str, _, _ => exact Iff.rfl
  | .ref _, _, _ => exact Iff.rfl
  | .unit, _, _ => exact Iff.rfl
  | .arr _ _, _, _ => exact Iff.rfl
  | .last _, _, _ => exact Iff.rfl
  | .cons _ (.int _), _, _ => exact Iff.rfl
  | .cons _ .bool, _, _ => exact Iff.rfl
  | .cons _ .str, _, _ => exact Iff.rfl
  | .cons _ (.ref _), _, _ => exact Iff.rfl
  | .cons _ .unit, _, _ => exact Iff.rfl
  | .cons _ (.arr _ _), _, _ => exact Iff.rfl
  | .cons _ (.cons _ _), _, _ => exact Iff.rfl
omit [GTab] in
theorem MR.iff {E E' : Env} {f : Nat → Nat} {e : Loc} (b : Blk) (w : World) (h : ∀ i ∈ b.ids, E' (f i) = E i) : MR e E' (b.ren f) w ↔ MR e E b w := by
  refine and_congr Iff.rfl (exists_congr fun es => exists_congr fun clk => and_congr Iff.rfl ?_)
  cases hn : b.t.noRef with
  | true =>
    have e : b.ren f = b := by unfold Blk.ren; simp only [hn]
    rw [e]
    constructor
    · intro hl
      have := LF.imp (g := id) (fun x c hx => MapE.noRef (E' := E) b.t x c hn hx) _ _ hl
      rwa [List.map_id] at this
    · intro hl
      have := LF.imp (g := id) (fun x c hx => MapE.noRef (E' := E') b.t x c hn hx) _ _ hl
      rwa [List.map_id] at this
  | false =>
    have e : b.ren f = ⟨b.ro, b.one, b.t, b.xs.map (b.t.ren f ·)⟩ := by unfold Blk.ren; simp only [hn]
    have e2 : b.ids = b.xs.flatMap (b.t.ids ·) := by unfold Blk.ids; simp only [hn]
    rw [e2] at h
    rw [e]
    exact LF.iff b.xs es.toList fun x hx c => MapE.iff b.t x c fun i hi => h i (List.mem_flatMap.2 ⟨x, hx, hi⟩)
omit [GTab] in
theorem BR.iff {E E' : Env} {f : Nat → Nat} {e : Loc} (b : Blk) (w : World) (h : ∀ i ∈ b.ids, E' (f i) = E i) : BR e E' (b.ren f) w ↔ BR e E b w := by
  have hx : (b.ren f).xs = [] ↔ b.xs = [] := by
    unfold Blk.ren; split
    · rfl
    · simp
  have hl : ∀ cells, LR (CR E' (b.ren f).t) (b.ren f).xs cells ↔ LR (CR E b.t) b.xs cells := by
    intro cells
    cases hn : b.t.noRef with
    | true =>
      have : b.ren f = b := by unfold Blk.ren; simp only [hn]
      rw [this]
      exact ⟨LR.imp' (fun x c hc => CR.noRef _ x c hn hc) _ _, LR.imp' (fun x c hc => CR.noRef _ x c hn hc) _ _⟩
    | false =>
      have e : b.ren f = ⟨b.ro, b.one, b.t, b.xs.map (b.t.ren f ·)⟩ := by unfold Blk.ren; simp only [hn]
      have e2 : b.ids = b.xs.flatMap (b.t.ids ·) := by unfold Blk.ids; simp only [hn]
      rw [e2] at h
      rw [e]
      exact LR.iff b.xs cells fun x hx cs => CR.iff b.t x cs fun i hi => h i (List.mem_flatMap.2 ⟨x, hx, hi⟩)
  unfold BR
  rw [Blk.ren_isMap]
  split
  · rfl
  · rw [hx]
  · split
    · exact MR.iff b w h
    unfold BC
    rw [Blk.ren_ro]
    refine exists_congr fun cs => exists_congr fun T => exists_congr fun fr => and_congr Iff.rfl (and_congr Iff.rfl (and_congr ?_ Iff.rfl))
    exact exists_congr fun front => exists_congr fun cells => exists_congr fun rest => and_congr Iff.rfl (and_congr Iff.rfl (hl cells))

/-! ### What is come to -/

omit [GTab] in
theorem reach_ok {L : Nat → Option Blk} : ∀ (n : Nat) (todo seen σ : List Nat), reach L n todo seen = some σ → seen.Nodup →
    σ.Nodup ∧ (∀ i ∈ todo, i ∈ σ) ∧ (∀ i ∈ seen, i ∈ σ) ∧ ∀ i ∈ σ, i ∈ seen ∨ ∃ b, L i = some b ∧ ∀ j ∈ b.ids, j ∈ σ
  | 0, _, _, _, h, _ => by cases h
  | n + 1, [], seen, σ, h, hn => by
    simp only [reach, Option.some.injEq] at h
    subst h
    exact And.intro hn (And.intro (fun i hi => absurd hi (by simp)) (And.intro (fun i hi => hi) (fun i hi => Or.inl hi)))
  | n + 1, i :: todo, seen, σ, h, hn => by
    simp only [reach] at h
    split at h
    · rename_i he
      obtain ⟨h1, h2, h3, h4⟩ := reach_ok n todo seen σ h hn
      refine ⟨h1, fun j hj => ?_, h3, h4⟩
      rcases List.mem_cons.1 hj with rfl | hj
      · exact h3 _ (by simpa using he)
      · exact h2 j hj
    · rename_i he
      simp only [Option.bind_eq_some_iff] at h
      obtain ⟨b, hb, h⟩ := h
      have he : i ∉ seen := by simpa using he
      obtain ⟨h1, h2, h3, h4⟩ := reach_ok n _ _ σ h (List.nodup_append.2 ⟨hn, by simp, fun x hx y hy e => by simp at hy; subst hy; subst e; exact he hx⟩)
      refine ⟨h1, fun j hj => ?_, fun j hj => h3 j (List.mem_append_left _ hj), fun j hj => ?_⟩
      · rcases List.mem_cons.1 hj with rfl | hj
        · exact h3 _ (by simp)
        · exact h2 j (List.mem_append_left _ hj)
      · rcases h4 j hj with h | h
        · rcases List.mem_append.1 h with h | h
          · exact .inl h
          · simp only [List.mem_singleton] at h
            subst h
            exact .inr ⟨b, hb, fun k hk => h2 k (List.mem_append_right _ hk)⟩
        · exact .inr h


omit [GTab] in
theorem filterMap_all {α β : Type} {g : α → Option β} : ∀ (l : List α), (∀ x ∈ l, ∃ y, g x = some y) → (l.filterMap g).length = l.length ∧ ∀ k, k < l.length → ∀ x, l[k]? = some x → (l.filterMap g)[k]? = g x
  | [], _ => ⟨rfl, fun k h => by simp at h⟩
  | x :: l, h => by
    obtain ⟨y, hy⟩ := h x (by simp)
    obtain ⟨h1, h2⟩ := filterMap_all l fun z hz => h z (by simp [hz])
    rw [List.filterMap_cons_some hy]
    refine ⟨by simp [h1], fun k hk z hz => ?_⟩
    cases k with
    | zero => simp at hz ⊢; rw [← hz, hy]
    | succ k => simp at hz ⊢; exact h2 k (by simpa using hk) z hz

omit [GTab] in
theorem updL_append (L : Nat → Option Blk) : ∀ (u v : List (Nat × Option Blk)), updL L (u ++ v) = updL (updL L u) v
  | [], v => rfl
  | x :: u, v => by simp only [List.cons_append, updL]; exact updL_append _ u v

omit [GTab] in
theorem outF_lt {σ : List Nat} {m k : Nat} (h : k < σ.length) : outF σ m k = σ[k] := by simp [outF, h]

omit [GTab] in
theorem outF_ge {σ : List Nat} {m k : Nat} (h : σ.length ≤ k) : outF σ m k = m + (k - σ.length) := by simp [outF, Nat.not_lt.2 h]

omit [GTab] in
theorem updL_news {σ : List Nat} {m : Nat} : ∀ (l : List Blk) (j : Nat) (L : Nat → Option Blk) (i : Nat),
    updL L (newsF σ m l j) i = if m + j ≤ i ∧ i < m + j + l.length then (l[i - (m + j)]?).map (Blk.ren (outF σ m)) else L i
  | [], j, L, i => by
    simp only [newsF, updL, List.length_nil]
    rw [if_neg (by omega)]
  | b :: l, j, L, i => by
    simp only [newsF, updL]
    rw [updL_news l (j + 1)]
    by_cases h : i = m + j
    · subst h
      rw [if_neg (by omega), if_pos (by simp)]
      simp
    · by_cases h2 : m + (j + 1) ≤ i ∧ i < m + (j + 1) + l.length
      · rw [if_pos h2, if_pos (by simp; omega)]
        have : i - (m + j) = (i - (m + (j + 1))) + 1 := by omega
        rw [this]; simp
      · rw [if_neg h2, if_neg h, if_neg (by simp only [List.length_cons]; omega)]

omit [GTab] in
theorem news_ids {σ : List Nat} {m : Nat} : ∀ (l : List Blk) (j i : Nat), i ∈ (newsF σ m l j).map (·.1) ↔ m + j ≤ i ∧ i < m + j + l.length
  | [], j, i => by simp [newsF]
  | b :: l, j, i => by
    simp only [newsF, List.map_cons, List.mem_cons, news_ids l (j + 1), List.length_cons]
    omega

omit [GTab] in
/-- Blocks that a call has changed: in the caller's numbers. -/
theorem upd_call {σ : List Nat} (hn : σ.Nodup) {m : Nat} {inv : Nat → Nat} {L0 : Nat → Option Blk} : ∀ (u : List (Nat × Option Blk)) (L : Nat → Option Blk) (h : List (Option Blk)),
    h.length = σ.length → (∀ x ∈ u, x.1 < σ.length) →
    (∀ k (hk : k < σ.length), (L σ[k] = L0 σ[k] ∧ h[k]? = some ((L0 σ[k]).map (Blk.ren inv))) ∨ (∃ b, h[k]? = some b ∧ L σ[k] = b.map (Blk.ren (outF σ m)))) →
    (∀ i, i ∉ σ → L i = L0 i) →
    (u.foldl (fun h u => h.set u.1 u.2) h).length = σ.length ∧
    (∀ k (hk : k < σ.length), (updL L (u.map fun u => (outF σ m u.1, u.2.map (Blk.ren (outF σ m)))) σ[k] = L0 σ[k] ∧ (u.foldl (fun h u => h.set u.1 u.2) h)[k]? = some ((L0 σ[k]).map (Blk.ren inv))) ∨
      (∃ b, (u.foldl (fun h u => h.set u.1 u.2) h)[k]? = some b ∧ updL L (u.map fun u => (outF σ m u.1, u.2.map (Blk.ren (outF σ m)))) σ[k] = b.map (Blk.ren (outF σ m)))) ∧
    (∀ i, i ∉ σ → updL L (u.map fun u => (outF σ m u.1, u.2.map (Blk.ren (outF σ m)))) i = L0 i)
  | [], L, h, h1, _, h3, h4 => ⟨h1, h3, h4⟩
  | x :: u, L, h, h1, h2, h3, h4 => by
    have hx := h2 x (by simp)
    simp only [List.map_cons, updL, List.foldl_cons]
    refine upd_call hn u _ _ (by rw [List.length_set]; exact h1) (fun y hy => h2 y (by simp [hy])) (fun k hk => ?_) (fun i hi => ?_)
    · rw [outF_lt hx]
      by_cases e : k = x.1
      · subst e
        right
        refine ⟨x.2, by rw [List.getElem?_set_self (by omega)], by simp⟩
      · have : σ[k] ≠ σ[x.1] := fun h => e ((List.getElem_inj hn).1 h)
        simp only [this, if_false]
        rw [List.getElem?_set_ne (fun h => e h.symm)]
        exact h3 k hk
    · rw [outF_lt hx]
      have : i ≠ σ[x.1] := fun h => hi (h ▸ List.getElem_mem hx)
      simp only [this, if_false]
      exact h4 i hi

omit [GTab] in
theorem idxOf_lt' {σ : List Nat} {i : Nat} (h : i ∈ σ) : ∃ hk : σ.idxOf i < σ.length, σ[σ.idxOf i] = i := ⟨List.idxOf_lt_length_of_mem h, List.getElem_idxOf _⟩

theorem callE_ok {P : Program} {G : FuncId → Option Spec} (hG : Sound P G) {L : Nat → Option Blk} {m : Nat} {f : FuncId} {as : List AV} {e : Eff} {E : Env} {w : World} {vs : List Value} (he : callE G L m f as = some e) (hp : allP e.pre)
    (H : HR E L w) (hm : ∀ i ∈ e.upd.map (·.1), m ≤ i → (E i).st = .dead) (hv : ARs E as vs) :
    Calls P f vs.toArray w fun en w' => ∃ v E', en = .returned v ∧ SR E' e.v v ∧ HR E' (updL L e.upd) w' ∧ Fr E w E' w' ∧ (∀ i, (E' i).st ≠ .dead → (E i).st ≠ .dead ∨ (i ∈ e.upd.map (·.1) ∧ m ≤ i)) := by
  simp only [callE, Option.bind_eq_some_iff] at he
  obtain ⟨spec, hs, σ, hr, o, ho, he⟩ := he
  split at he
  · rename_i hchk
    simp only [Bool.and_eq_true, List.all_eq_true, decide_eq_true_eq] at hchk
    obtain ⟨hu, hlt⟩ := hchk
    cases he
    dsimp only at hp hm ⊢
    obtain ⟨hnd, hargs, -, hcl⟩ := reach_ok _ _ _ _ hr List.nodup_nil
    have hcl : ∀ i ∈ σ, ∃ b, L i = some b ∧ ∀ j ∈ b.ids, j ∈ σ := fun i hi => (hcl i hi).resolve_left (by simp)
    let inv : Nat → Nat := fun i => σ.idxOf i
    let E0 : Env := fun k => if k < σ.length then E (σ.getD k 0) else ⟨0, 0, 0, .dead, true⟩
    have hE0 : ∀ k (hk : k < σ.length), E0 k = E σ[k] := fun k hk => by simp [E0, hk]
    have hE0d : ∀ k, σ.length ≤ k → (E0 k).st = .dead := fun k hk => by simp [E0, Nat.not_lt.2 hk]
    have hinv : ∀ i ∈ σ, E0 (inv i) = E i := fun i hi => by
      obtain ⟨hk, e⟩ := idxOf_lt' hi
      show E0 (σ.idxOf i) = _
      rw [hE0 _ hk, e]
    have hlive : ∀ i ∈ σ, (E i).st ≠ .dead := fun i hi => by
      obtain ⟨b, hb, _⟩ := hcl i hi
      exact (H.blk i b hb).notDead
    obtain ⟨hil, hik⟩ := filterMap_all (g := fun i => (L i).map (Blk.ren inv)) σ (fun i hi => by
      obtain ⟨b, hb, _⟩ := hcl i hi
      exact ⟨b.ren inv, by simp [hb]⟩)
    have hik : ∀ k (hk : k < σ.length), (σ.filterMap fun i => (L i).map (Blk.ren inv))[k]? = (L σ[k]).map (Blk.ren inv) := fun k hk => hik k hk _ (by simp [hk])
    generalize hins : (σ.filterMap fun i => (L i).map (Blk.ren inv)) = ins at hil hik
    have ho : spec (as.map (AV.ren inv)) ins = some o := by rw [← hins]; exact ho
    have hHR : HR E0 (hpF (ins.map some)) w := by
      have get : ∀ k b, hpF (ins.map some) k = some b → ∃ hk : k < σ.length, ∃ b0, L σ[k] = some b0 ∧ b = b0.ren inv := by
        intro k b hb
        simp only [hpF, List.getElem?_map] at hb
        cases hi : ins[k]? with
        | none => rw [hi] at hb; simp at hb
        | some c =>
          rw [hi] at hb; simp at hb; subst hb
          have hk : k < σ.length := by rw [← hil]; exact (List.getElem?_eq_some_iff.1 hi).1
          have := hik k hk
          rw [hi] at this
          obtain ⟨b0, hb0, _⟩ := hcl σ[k] (List.getElem_mem hk)
          rw [hb0] at this; simp at this
          exact ⟨hk, b0, hb0, this⟩
      refine ⟨H.gl.sub fun k hr hrw => ?_, fun k b hb => ?_, fun k l b c hb hc hrk hrl hrw he => ?_⟩
      · by_cases hk : k < σ.length
        · rw [hE0 k hk] at hr hrw ⊢
          exact ⟨_, hr, hrw, rfl⟩
        · rw [hE0d k (by omega)] at hr; cases hr
      · obtain ⟨hk, b0, hb0, rfl⟩ := get k b hb
        rw [hE0 k hk]
        refine (BR.iff b0 w fun i hi => ?_).2 (H.blk _ _ hb0)
        obtain ⟨b1, hb1, hb1i⟩ := hcl σ[k] (List.getElem_mem hk)
        rw [hb0] at hb1; cases hb1
        exact hinv i (hb1i i hi)
      · obtain ⟨hk, b0, hb0, -⟩ := get k b hb
        obtain ⟨hl, c0, hc0, -⟩ := get l c hc
        rw [hE0 k hk] at hrk he hrw
        rw [hE0 l hl] at hrl he
        exact (List.getElem_inj hnd).1 (H.inj _ _ _ _ hb0 hc0 hrk hrl hrw he)
    have hA : ARs E0 (as.map (AV.ren inv)) vs := (ARs.iff as vs fun i hi => hinv i (hargs i hi)).2 hv
    have call := (hG f spec hs).2 _ _ _ ho hp E0 vs w hA hHR (fun i hi => hE0d i (by rw [← hil]; exact hi))
    refine Calls.mono call ?_
    rintro en w' ⟨v, F, rfl, hv', hH', hd', hfr⟩
    obtain ⟨ul, uk, ui⟩ := upd_call hnd (m := m) (inv := inv) (L0 := L) o.upd L (ins.map some) (by simp [hil]) hu (fun k hk => .inl ⟨rfl, by
      rw [List.getElem?_map, hik k hk]
      obtain ⟨b0, hb0, _⟩ := hcl σ[k] (List.getElem_mem hk)
      simp [hb0]⟩) (fun _ _ => rfl)
    let E' : Env := fun i => if i ∈ σ then E i else if m ≤ i ∧ i < m + o.news.length then F (σ.length + (i - m)) else E i
    have hlen : (outHp ins o).length = σ.length + o.news.length := by simp only [outHp, List.length_append, List.length_map]; rw [ul]
    have hFk : ∀ k (hk : k < σ.length), F k = E σ[k] := fun k hk => by
      rw [hfr.env k (by rw [hE0 k hk]; exact hlive _ (List.getElem_mem hk)), hE0 k hk]
    have hout : EM F (outF σ m) E' := by
      intro k hk
      by_cases h : k < σ.length
      · rw [outF_lt h, hFk k h]
        simp [E', List.getElem_mem h]
      · have h2 : k < (outHp ins o).length := by
          rcases Nat.lt_or_ge k (outHp ins o).length with h' | h'
          · exact h'
          · exact absurd (hd' k h') hk
        rw [hlen] at h2
        rw [outF_ge (by omega)]
        have h3 : m + (k - σ.length) ∉ σ := fun hi => by have := hlt _ hi; omega
        show (if _ then _ else _) = _
        rw [if_neg h3, if_pos (by omega)]
        congr 1; omega
    have hnew : ∀ i, m ≤ i ∧ i < m + o.news.length → (E i).st = .dead := fun i hi => hm i (by
      rw [List.map_append, List.mem_append]
      exact .inr ((news_ids _ _ _).2 (by omega))) hi.1
    have hmono : ∀ i, (E i).st ≠ .dead → E' i = E i := by
      intro i hi
      show (if _ then _ else _) = _
      split
      · rfl
      · split
        · rename_i h; exact absurd (hnew i h) hi
        · rfl
    have hF2 : ∀ i, (E' i).st ≠ .dead → (E i).st ≠ .dead ∨ (m ≤ i ∧ i < m + o.news.length ∧ i ∉ σ ∧ E' i = F (σ.length + (i - m))) := by
      intro i hi
      by_cases h1 : i ∈ σ
      · exact .inl (hlive i h1)
      · by_cases h2 : m ≤ i ∧ i < m + o.news.length
        · exact .inr ⟨h2.1, h2.2, h1, by simp [E', h1, h2]⟩
        · left
          have : E' i = E i := by simp only [E', h1, if_false]; rw [if_neg h2]
          rw [← this]; exact hi
    -- blocks, told apart
    have split : ∀ i b, updL L (o.upd.map (fun u => (outF σ m u.1, u.2.map (Blk.ren (outF σ m)))) ++ newsF σ m o.news 0) i = some b →
        (∃ k, ∃ hk : k < σ.length, σ[k] = i ∧ E' i = F k ∧ (outHp ins o)[k]? ≠ some none ∧ ∃ c, hpF (outHp ins o) k = some c ∧ BR (F k) E' b w') ∨
        (i ∉ σ ∧ E' i = E i ∧ L i = some b) ∨
        (∃ k, σ.length ≤ k ∧ (E i).st = .dead ∧ E' i = F k ∧ i = m + (k - σ.length) ∧ ∃ c, hpF (outHp ins o) k = some c ∧ BR (F k) E' b w') := by
      intro i b hb
      rw [updL_append, updL_news] at hb
      split at hb
      · rename_i hi
        right; right
        have hd := hnew i (by omega)
        have h1 : i ∉ σ := fun hs => hlive i hs hd
        have hget : hpF (outHp ins o) (σ.length + (i - m)) = o.news[i - m]? := by
          simp only [hpF, outHp]
          rw [List.getElem?_append_right (by rw [ul]; omega), ul]
          have : σ.length + (i - m) - σ.length = i - m := by omega
          rw [this, List.getElem?_map]
          cases o.news[i - m]? <;> rfl
        simp only [Nat.add_zero, Option.map_eq_some_iff] at hb
        obtain ⟨c, hc, rfl⟩ := hb
        rw [← hget] at hc
        exact ⟨σ.length + (i - m), by omega, hd, by simp [E', h1, show m ≤ i ∧ i < m + o.news.length by omega], by omega, c, hc, (hH'.blk _ _ hc).ren hout⟩
      · rename_i hi
        by_cases h1 : i ∈ σ
        · left
          obtain ⟨hk, ei⟩ := idxOf_lt' h1
          refine ⟨σ.idxOf i, hk, ei, by simp only [E', h1, if_true]; rw [hFk _ hk, ei], ?_, ?_⟩
          · intro hnn
            rcases uk _ hk with ⟨hu1, hu2⟩ | ⟨c, hc1, hc2⟩
            · rw [show (outHp ins o)[σ.idxOf i]? = _ from List.getElem?_append_left (by rw [ul]; exact hk)] at hnn
              rw [hu2] at hnn
              obtain ⟨b0, hb0, _⟩ := hcl _ (List.getElem_mem hk)
              rw [hb0] at hnn; simp at hnn
            · rw [show (outHp ins o)[σ.idxOf i]? = _ from List.getElem?_append_left (by rw [ul]; exact hk)] at hnn
              rw [hc1] at hnn
              cases hnn
              rw [ei] at hc2
              rw [hc2] at hb; cases hb
          · have hget : hpF (outHp ins o) (σ.idxOf i) = ((o.upd.foldl (fun h u => h.set u.1 u.2) (ins.map some))[σ.idxOf i]?).bind id := by
              simp only [hpF, outHp]
              rw [List.getElem?_append_left (by rw [ul]; exact hk)]
            rcases uk _ hk with ⟨hu1, hu2⟩ | ⟨c, hc1, hc2⟩
            · rw [ei] at hu1
              rw [hu1] at hb
              obtain ⟨b0, hb0, hbi⟩ := hcl _ h1
              rw [hb] at hb0; cases hb0
              have hg : hpF (outHp ins o) (σ.idxOf i) = some (b.ren inv) := by rw [hget, hu2, ei, hb]; rfl
              refine ⟨_, hg, BR.mono hmono ((BR.iff b w' fun j hj => ?_).1 (hH'.blk _ _ hg))⟩
              obtain ⟨hkj, ej⟩ := idxOf_lt' (hbi j hj)
              show F (σ.idxOf j) = _
              rw [hFk _ hkj, ej]
            · rw [ei] at hc2
              rw [hc2] at hb
              simp only [Option.map_eq_some_iff] at hb
              obtain ⟨c', rfl, rfl⟩ := hb
              have hg : hpF (outHp ins o) (σ.idxOf i) = some c' := by rw [hget, hc1]; rfl
              exact ⟨_, hg, (hH'.blk _ _ hg).ren hout⟩
        · right; left
          rw [ui i h1] at hb
          refine ⟨h1, ?_, hb⟩
          simp only [E', h1, if_false]
          rw [if_neg (by omega)]
    have far : ∀ i b k, i ∉ σ → L i = some b → (E i).st = .real → (F k).st = .real → ((E i).rw = true ∨ (F k).rw = true) → (E i).blk ≠ (F k).blk := by
      intro i b k hi hb hri hrk hrw he
      have old : ∀ j (hj2 : j < σ.length), (E σ[j]).st = .real → (E i).blk = (E σ[j]).blk → ((E i).rw = true ∨ (E σ[j]).rw = true) → False := by
        intro j hj2 hj hbj hw
        obtain ⟨b0, hb0, _⟩ := hcl _ (List.getElem_mem hj2)
        rcases hw with hw | hw
        · have := H.inj i _ b b0 hb hb0 hri hj hw hbj
          exact hi (this ▸ List.getElem_mem hj2)
        · have := H.inj _ i b0 b hb0 hb hj hri hw hbj.symm
          exact hi (this ▸ List.getElem_mem hj2)
      by_cases hd : (E0 k).st = .dead
      · rcases hfr.new k hd hrk with h | ⟨j, hj, hjw, hbj⟩
        · have := (H.blk i b hb).lt hri
          omega
        · have hj2 : j < σ.length := by
            rcases Nat.lt_or_ge j σ.length with h | h
            · exact h
            · rw [hE0d j h] at hj; cases hj
          rw [hE0 j hj2] at hj hbj hjw
          exact old j hj2 hj (he.trans hbj) (.inr hjw)
      · have hk : k < σ.length := by
          rcases Nat.lt_or_ge k σ.length with h | h
          · exact h
          · exact absurd (hE0d k h) hd
        rw [hFk k hk] at hrk he hrw
        exact old k hk hrk he hrw
    refine ⟨v, E', rfl, hv'.ren hout, ⟨fun g a hg => ⟨(hH'.gl g a hg).1, fun i hr hrw => ?_⟩, fun i b hb => ?_, fun i j b c hb hc hri hrj hrw hij => ?_⟩, ⟨hmono, ?_, hfr.size, fun b hb hj => ?_, hfr.os, hfr.tape, hfr.output⟩, fun i hi => ?_⟩
    · by_cases h1 : i ∈ σ
      · have e : E' i = E i := by simp [E', h1]
        rw [e] at hr hrw ⊢; exact (H.gl g a hg).2 i hr hrw
      · by_cases h2 : m ≤ i ∧ i < m + o.news.length
        · have e : E' i = F (σ.length + (i - m)) := by simp [E', h1, h2]
          rw [e] at hr hrw ⊢; exact (hH'.gl g a hg).2 _ hr hrw
        · have e : E' i = E i := by simp only [E', h1, if_false]; rw [if_neg h2]
          rw [e] at hr hrw ⊢; exact (H.gl g a hg).2 i hr hrw
    · rcases split i b hb with ⟨k, hk, hki, he, -, c, hc, hbr⟩ | ⟨h1, h2, h3⟩ | ⟨k, hk, -, he, -, c, hc, hbr⟩
      · rw [he]; exact hbr
      · rw [h2]
        refine BR.world (fun hrl => ?_) (BR.mono hmono (H.blk i b h3))
        refine hfr.keep _ ((H.blk i b h3).lt hrl) fun j hj hjw => ?_
        have hj2 : j < σ.length := by
          rcases Nat.lt_or_ge j σ.length with h | h
          · exact h
          · rw [hE0d j h] at hj; cases hj
        rw [hE0 j hj2] at hj hjw ⊢
        intro hbe
        obtain ⟨b0, hb0, _⟩ := hcl _ (List.getElem_mem hj2)
        have := H.inj _ _ _ _ hb0 h3 hj hrl hjw hbe
        exact h1 (this ▸ List.getElem_mem hj2)
      · rw [he]; exact hbr
    · rcases split i b hb with ⟨k, hk, hki, he, -, cb, hcb, -⟩ | ⟨h1, h2, h3⟩ | ⟨k, hk, -, he, hie, cb, hcb, -⟩ <;>
      rcases split j c hc with ⟨l, hl, hlj, he', -, cc, hcc, -⟩ | ⟨k1, k2, k3⟩ | ⟨l, hl, -, he', hje, cc, hcc, -⟩
      · rw [he] at hri hij hrw; rw [he'] at hrj hij
        have := hH'.inj k l _ _ hcb hcc hri hrj hrw hij
        subst this; rw [← hki, ← hlj]
      · rw [he] at hri hij hrw; rw [k2] at hrj hij
        exact absurd hij.symm (far j c k k1 k3 hrj hri (.inr hrw))
      · rw [he] at hri hij hrw; rw [he'] at hrj hij
        have := hH'.inj k l _ _ hcb hcc hri hrj hrw hij
        omega
      · rw [h2] at hri hij hrw; rw [he'] at hrj hij
        exact absurd hij (far i b l h1 h3 hri hrj (.inl hrw))
      · rw [h2] at hri hij hrw; rw [k2] at hrj hij
        exact H.inj i j b c h3 k3 hri hrj hrw hij
      · rw [h2] at hri hij hrw; rw [he'] at hrj hij
        exact absurd hij (far i b l h1 h3 hri hrj (.inl hrw))
      · rw [he] at hri hij hrw; rw [he'] at hrj hij
        have := hH'.inj k l _ _ hcb hcc hri hrj hrw hij
        omega
      · rw [he] at hri hij hrw; rw [k2] at hrj hij
        exact absurd hij.symm (far j c k k1 k3 hrj hri (.inr hrw))
      · rw [he] at hri hij hrw; rw [he'] at hrj hij
        have := hH'.inj k l _ _ hcb hcc hri hrj hrw hij
        subst this; rw [hie, hje]
    · intro i hi hr
      rcases hF2 i (by rw [hr]; decide) with h | ⟨h1, h2, h3, h4⟩
      · exact absurd hi h
      · rw [h4] at hr ⊢
        have hd0 : (E0 (σ.length + (i - m))).st = .dead := hE0d _ (by omega)
        rcases hfr.new _ hd0 hr with h | ⟨j, hj, hjw, hbj⟩
        · exact .inl h
        · have hj2 : j < σ.length := by
            rcases Nat.lt_or_ge j σ.length with h | h
            · exact h
            · rw [hE0d j h] at hj; cases hj
          rw [hE0 j hj2] at hj hbj hjw
          exact .inr ⟨_, hj, hjw, hbj⟩
    · refine hfr.keep b hb fun j hj2 hjw => ?_
      have hj3 : j < σ.length := by
        rcases Nat.lt_or_ge j σ.length with h | h
        · exact h
        · rw [hE0d j h] at hj2; cases hj2
      rw [hE0 j hj3] at hj2 hjw ⊢
      exact hj _ hj2 hjw
    · rcases hF2 i hi with h | ⟨h1, h2, h3, h4⟩
      · exact .inl h
      · refine .inr ⟨?_, h1⟩
        rw [List.map_append, List.mem_append]
        exact .inr ((news_ids _ _ _).2 (by omega))
  · cases he

end Go.SL

/- S-logic, part 18: an operation in its region. -/
namespace Go.SL
open Go
variable [GTab]

/-- What an operation is held to do, whatever comes behind. -/
def XOk (P : Program) (ρc : Operand → Value) (o : Oper) (m : Nat) (E : Env) (L : Nat → Option Blk) (w : World) (e : Eff) : Prop :=
  ∀ (next : Act → World → Prop) (Q : Exit → Act → World → Prop) (a : Act),
    (∀ v w' E', SR E' e.v v → HR E' (updL L e.upd) w' → Fr E w E' w' → (∀ i, (E' i).st ≠ .dead → (E i).st ≠ .dead ∨ (i ∈ e.upd.map (·.1) ∧ m ≤ i)) → next (a.put o.dst v) w') →
    o.upon P a next Q ((execOp ρc o).run P w)

theorem OpOk.x {P : Program} {ρc : Operand → Value} {o : Oper} {m : Nat} {E : Env} {L : Nat → Option Blk} {w : World} {e : Eff} (h : OpOk P ρc o m E L w e) : XOk P ρc o m E L w e := by
  intro next Q a hn
  obtain ⟨v, w', E', hr, h1, h2, h3, h4⟩ := h
  rcases hr with hr | ⟨hr, rfl⟩
  · rw [hr]; exact hn v w' E' h1 h2 h3 h4
  · rw [hr]; exact hn undef w' E' h1 h2 h3 h4

omit [GTab] in
theorem refSV_ok {E : Env} {r : Ref} {v : Value} (h : VR E r v) : SR E (refSV r) v := by
  cases r <;> simp only [refSV] <;> first
    | exact AR.mkRef h rfl
    | trivial
    | (simp only [VR] at h; first | (obtain ⟨rfl, h⟩ := h; first | exact AR.mkInt (E := E) h.1 h.2 | exact AR.mkStr (E := E) h) | (subst h; exact AR.mkBool (E := E)))

omit [GTab] in
theorem refSV_pre {r : Ref} {ps : List Prop} {a : AV} (h : (refSV r).val = some (ps, a)) : ps = [] := by
  cases r <;> simp only [refSV, SV.val] at h <;> first | (cases h; rfl) | cases h

omit [GTab] in
theorem refs_ok {E : Env} : ∀ (rs : List Ref) (ps : List Prop) (as : List AV) (vs : List Value), vals (rs.map refSV) = some (ps, as) → VRs E rs vs → ARs E as vs
  | [], ps, as, vs, h, hv => by
    simp only [List.map_nil, vals, Option.some.injEq, Prod.mk.injEq] at h
    rw [← h.2]; simpa [VRs, ARs] using hv
  | r :: rs, ps, as, vs, h, hv => by
    simp only [List.map_cons, vals, Option.bind_eq_some_iff, Option.map_eq_some_iff] at h
    obtain ⟨⟨p, a⟩, h1, ⟨q, bs⟩, h2, h3⟩ := h
    cases h3
    simp only [VRs] at hv
    obtain ⟨v, vs', rfl, k1, k2⟩ := hv
    have := refSV_pre h1
    subst this
    exact ⟨v, vs', rfl, SV.val_ok h1 trivial (refSV_ok k1), refs_ok rs _ _ _ h2 k2⟩

omit [GTab] in
theorem ARs.append {E : Env} : ∀ {as bs : List AV} {us vs : List Value}, ARs E as us → ARs E bs vs → ARs E (as ++ bs) (us ++ vs)
  | [], bs, us, vs, h, h' => by rw [show us = [] from h]; exact h'
  | a :: as, bs, us, vs, h, h' => by
    obtain ⟨u, us', rfl, h1, h2⟩ := h
    exact ⟨u, us' ++ vs, rfl, h1, ARs.append h2 h'⟩

omit [GTab] in
theorem run_callFunc {P : Program} {f : FuncId} (h : Enters P f) (args : Array Value) (w : World) : (callFunc f args).run P w = .ok (.enter f args) w := by
  obtain ⟨fn, h1, h2, h3⟩ := h
  have hn : fn.name ≠ "runtime.NumGoroutine" := by simpa using h2
  have hb : fn.body ≠ none := by intro h; rw [h] at h3; simp at h3
  simp [callFunc, h1, hn, hb]

section
variable {P : Program} {D : TI} (gd : Good P D) {G : FuncId → Option Spec} (hG : Sound P G) {meth : MethT} (hM : Meth P meth)
  {ρ : Operand → SV} {ρc : Operand → Value} {m : Nat} {E : Env} (hρ : ∀ x, SR E (ρ x) (ρc x)) {L : Nat → Option Blk} {w : World} (H : HR E L w)
  (ty : TypeId) (pos : String) (after : Array Edge) (gu : Option (Nat × Bool)) (dst : Option Tmp) {e : Eff}

include hG H in
/-- A call by code: what is entered. -/
theorem enter_ok {o : Oper} {f : FuncId} {as : List AV} {vs : Array Value} {e' : Eff} (hc : callE G L m f as = some e') (hp : allP e'.pre) (hm : ∀ i ∈ e'.upd.map (·.1), m ≤ i → (E i).st = .dead) (hv : ARs E as vs.toList)
    (hrun : (execOp ρc o).run P w = .ok (.enter f vs) w) {ps : List Prop} : XOk P ρc o m E L w { e' with pre := ps } := by
  intro next Q a hn
  rw [hrun]
  refine Calls.mono (callE_ok hG hc hp H hm hv) ?_
  rintro en w' ⟨v, E', rfl, h1, h2, h3, h4⟩
  exact hn v w' E' h1 h2 h3 h4

theorem callE_enters {P : Program} {G : FuncId → Option Spec} (hG : Sound P G) {L : Nat → Option Blk} {m : Nat} {f : FuncId} {as : List AV} {e : Eff} (he : callE G L m f as = some e) : Enters P f := by
  simp only [callE, Option.bind_eq_some_iff] at he
  obtain ⟨spec, hs, -⟩ := he
  exact (hG f spec hs).1

include gd in
theorem loadE_ok {E : Env} {L : Nat → Option Blk} {w : World} (H : HR E L w) {T : TypeId} {r : Ref} {e : Eff} {v : Value} (he : loadE L (D.ty T) r = some e) (hp : allP e.pre) (hv : VR E r v) :
    ∃ ad u, v = .pointer (some ad) ∧ (loadVar T ad).run P w = .ok u w ∧ SR E e.v u := by
  unfold loadE at he
  split at he
  · rename_i b t p
    simp only [Option.bind_eq_some_iff] at he
    obtain ⟨k, hk, ⟨qs, a⟩, ha, he⟩ := he
    split at he
    · rename_i h1 h2
      cases he
      simp only [decide_eq_true_eq] at h1 h2
      subst h1
      simp only [VR] at hv
      obtain ⟨hst, hv⟩ := hv
      obtain ⟨cs, S, fr, A, B, C, q1, q2, q3, q4, _⟩ := Blk.rd_ok (H.blk b k hk) hst ha hp
      obtain ⟨u, hrun, hav⟩ := run_loadVar gd h2 q1 q2 q3 q4
      exact ⟨_, u, hv, hrun, hav⟩
    · cases he
  · rename_i b t p o n
    simp only [Option.bind_eq_some_iff] at he
    obtain ⟨k, hk, he⟩ := he
    split at he
    · rename_i m' u hT
      simp only [Option.bind_eq_some_iff] at he
      obtain ⟨⟨qs, l⟩, hl, he⟩ := he
      split at he
      · rename_i h1 h2
        cases he
        simp only [decide_eq_true_eq] at h1 h2
        subst h1 h2
        simp only [VR] at hv
        obtain ⟨hst, hv⟩ := hv
        simp only [allP_append, allP] at hp
        obtain ⟨cs, S, fr, A, B, C, q1, q2, q3, q4⟩ := Blk.els_seg (H.blk b k hk) hst hl hp.1 hp.2
        have q5 : CR E (.arr m' u) (seg l o m') B := ⟨by simp [seg]; omega, q4⟩
        obtain ⟨x, hrun, hav⟩ := run_loadVar gd hT q1 q2 q3 q5
        exact ⟨_, x, hv, hrun, hav⟩
      · cases he
    · cases he
  · cases he

include gd hG hM hρ H in
theorem opX_ok (hgv : ∀ g, ρc (.global g) = .pointer (some ⟨g, 0, none⟩)) (op : Op) (he : opX D G meth ρ L m op = some e) (hp : allP e.pre) (hm : ∀ i ∈ e.upd.map (·.1), m ≤ i → (E i).st = .dead) : XOk P ρc ⟨dst, op, ty, pos, after, gu⟩ m E L w e := by
  unfold opX at he
  split at he
  · rename_i g args ats
    simp only [Option.bind_eq_some_iff, Option.map_eq_some_iff] at he
    obtain ⟨⟨ps, r⟩, hr, ⟨f, a, c⟩, hf, ⟨qs, as⟩, has, ⟨_, fs⟩, hfs, ⟨_, cs⟩, hcs, e', hc, rfl⟩ := he
    simp only [allP_append] at hp
    have h1 := (svR_ok hr hp.1.1 (hρ g)).1
    have h2 := vals_ok ρ ρc hρ _ _ _ has hp.1.2
    have hr2 : r = .func (.func f) a c := by
      unfold Ref.isF at hf; split at hf
      · rename_i heq; cases hf; exact heq
      · cases hf
    subst hr2
    simp only [VR] at h1
    obtain ⟨f', c', hg, k1, k2⟩ := h1
    have k3 := refs_ok _ _ _ _ hfs k1
    have k4 := refs_ok _ _ _ _ hcs k2
    refine enter_ok hG H (vs := f' ++ args.map ρc ++ c') hc hp.2 hm ?_ ?_
    · simp only [Array.toList_append, Array.toList_map]
      exact (k3.append h2).append k4
    · have := run_callFunc (callE_enters hG hc) (f' ++ args.map ρc ++ c') w
      simpa [execOp, resolve, hg, Deferred.ofValue, invoke] using this
  · rename_i g nm args ats
    simp only [Option.bind_eq_some_iff] at he
    obtain ⟨⟨ps, r⟩, hr, he⟩ := he
    dsimp only at he
    split at he
    · rename_i T r
      simp only [Option.bind_eq_some_iff] at he
      obtain ⟨⟨f, o⟩, hf, ⟨qs, as⟩, has, he⟩ := he
      dsimp only at he
      cases o with
      | none =>
        simp only [Option.bind_eq_some_iff, Option.map_eq_some_iff] at he
        obtain ⟨⟨_, fs⟩, hfs, e', hc, rfl⟩ := he
        simp only [allP_append] at hp
        have h1 := (svR_ok hr hp.1.1 (hρ g)).1
        have h2 := vals_ok ρ ρc hρ _ _ _ has hp.1.2
        simp only [VR] at h1
        obtain ⟨x, hg, k1⟩ := h1
        have k3 := refs_ok [r] _ _ [x] hfs ⟨x, [], rfl, k1, rfl⟩
        refine enter_ok hG H (vs := #[x] ++ args.map ρc) hc hp.2 hm ?_ ?_
        · simp only [Array.toList_append, Array.toList_map]
          exact k3.append h2
        · have := run_callFunc (callE_enters hG hc) (#[x] ++ args.map ρc) w
          have hmm := hM T nm f _ hf x w
          have hx : (#[Value.iface T x] ++ args.map ρc).extract 1 (#[Value.iface T x] ++ args.map ρc).size = args.map ρc := by simp
          have h0 : (#[Value.iface T x] ++ args.map ρc)[0]? = some (.iface T x) := by rw [Array.getElem?_append_left (by simp)]; rfl
          simp only [execOp, resolve, hg, invoke, Sem.run_bind, Sem.run_pure, Result.andThen_ok, callMethod, h0, hx, run_program, hmm, this]
      | some U =>
        simp only [Option.bind_eq_some_iff, Option.map_eq_some_iff] at he
        obtain ⟨l, hl, ⟨s, a⟩, ha, e', hc, rfl⟩ := he
        simp only [allP_append] at hp
        obtain ⟨⟨p1, p2⟩, ⟨p3, p4⟩, p5⟩ := hp
        have h1 := (svR_ok hr p1 (hρ g)).1
        have h2 := vals_ok ρ ρc hρ _ _ _ has p2
        simp only [VR] at h1
        obtain ⟨x, hg, k1⟩ := h1
        obtain ⟨ad, u, rfl, hrun, hu⟩ := loadE_ok gd H hl p3 k1
        have k3 := SV.val_ok ha p4 hu
        have hdone := enter_ok (ρc := ρc) (ps := []) hG H (vs := #[u] ++ args.map ρc) (o := ⟨dst, .call { callee := .invoke g nm, args := args, argTypes := ats }, ty, pos, after, gu⟩) hc p5 hm (by
          simp only [Array.toList_append, Array.toList_map]
          exact ARs.append (as := [a]) (us := [u]) ⟨u, [], rfl, k3, rfl⟩ h2) (by
          have := run_callFunc (callE_enters hG hc) (#[u] ++ args.map ρc) w
          have hmm := hM T nm f _ hf ad u w hrun
          have hx : (#[Value.iface T (.pointer (some ad))] ++ args.map ρc).extract 1 (#[Value.iface T (.pointer (some ad))] ++ args.map ρc).size = args.map ρc := by simp
          have h0 : (#[Value.iface T (.pointer (some ad))] ++ args.map ρc)[0]? = some (.iface T (.pointer (some ad))) := by rw [Array.getElem?_append_left (by simp)]; rfl
          simp only [execOp, resolve, hg, invoke, Sem.run_bind, Sem.run_pure, Result.andThen_ok, callMethod, h0, hx, run_program, hmm, this])
        exact fun next Q a hn => hdone next Q a hn
    · cases he
  · rename_i h1 h2
    exact (opE_ok gd hρ H ty pos after gu dst hgv op he hp (fun h => hm m h (Nat.le_refl _))).x

end
end Go.SL

/- S-logic, part 19: guards; regions in list order. -/
namespace Go.SL
open Go
variable [GTab]

structure RelF (tm : List SV) (L : Nat → Option Blk) (E : Env) (a : Act) (w : World) : Prop where
  tms : ∀ i, SR E (tm.getD i .any) (a.tmps.getD i undef)
  sz : tm.length = a.tmps.size
  df : a.defers = []
  hp : HR E L w

omit [GTab] in
theorem putT_len (tm : List SV) (dst : Option Tmp) (v : SV) : (putT tm dst v).length = tm.length := by
  cases dst <;> simp [putT]

omit [GTab] in
theorem putT_get (tm : List SV) (dst : Option Tmp) (v : SV) (i : Nat) : (putT tm dst v).getD i .any = if dst = some i ∧ i < tm.length then v else tm.getD i .any := by
  cases dst with
  | none => simp [putT]
  | some d =>
    simp only [putT, Option.some.injEq]
    by_cases h : d = i
    · subst h
      by_cases h2 : d < tm.length
      · simp [h2]
      · simp [h2]
    · rw [if_neg (fun h' => h h'.1)]
      simp [List.getD_eq_getElem?_getD, List.getElem?_set_ne h]

omit [GTab] in
theorem put_get (a : Act) (dst : Option Tmp) (v : Value) (i : Nat) : (a.put dst v).tmps.getD i undef = if dst = some i ∧ i < a.tmps.size then v else a.tmps.getD i undef := by
  cases dst with
  | none => simp [Act.put]
  | some d =>
    simp only [Act.put, Option.some.injEq]
    by_cases h : d = i
    · subst h
      by_cases h2 : d < a.tmps.size
      · simp [h2]
      · simp [h2]
    · rw [if_neg (fun h' => h h'.1)]
      simp [Array.getD_eq_getD_getElem?, Array.getElem?_setIfInBounds_ne h]

omit [GTab] in
theorem put_size (a : Act) (dst : Option Tmp) (v : Value) : (a.put dst v).tmps.size = a.tmps.size := by
  cases dst <;> simp [Act.put]

theorem RelF.put {tm : List SV} {L L' : Nat → Option Blk} {E E' : Env} {a : Act} {w w' : World} (R : RelF tm L E a w) {dst : Option Tmp} {s : SV} {v : Value} (hs : SR E' s v) (hp : HR E' L' w') (hf : Fr E w E' w') :
    RelF (putT tm dst s) L' E' (a.put dst v) w' where
  tms := fun i => by
    rw [putT_get, put_get, R.sz]
    split
    · exact hs
    · exact SR.mono hf.env (R.tms i)
  sz := by rw [putT_len, put_size]; exact R.sz
  df := by cases dst <;> exact R.df
  hp := hp

omit [GTab] in
theorem under_upd {c : Bool} {e e' : Eff} (h : e.under c = some e') : e.upd = [] ∧ e'.upd = [] ∧ e'.pre = guardP c true e.pre ∧ e.v.under c = some e'.v ∧ e'.foot = e.foot := by
  unfold Eff.under at h
  split at h
  · rename_i hu
    simp only [Option.map_eq_some_iff] at h
    obtain ⟨v, hv, rfl⟩ := h
    exact ⟨hu, rfl, rfl, hv, rfl⟩
  · cases h

omit [GTab] in
theorem under_true {E : Env} {s s' : SV} {v : Value} (h : s.under true = some s') (hs : SR E s v) : SR E s' v := by
  unfold SV.under at h
  split at h <;> cases h
  · trivial
  · exact ⟨fun _ => hs, fun h => by cases h⟩
  · simpa using hs

omit [GTab] in
theorem under_false {E : Env} {s s' : SV} (h : s.under false = some s') : SR E s' undef := by
  unfold SV.under at h
  split at h <;> cases h
  · trivial
  · exact And.intro (fun h => absurd h (by simp)) (fun _ => rfl)
  · exact And.intro (fun h => absurd h (by simp)) (fun _ => rfl)

section
variable {P : Program} {D : TI} (gd : Good P D) {G : FuncId → Option Spec} (hG : Sound P G) {meth : MethT} (hM : Meth P meth)

include gd hG hM in
theorem opG_ok {ops : Array Oper} {tm : List SV} {L : Nat → Option Blk} {m : Nat} {o : Oper} {e : Eff} (he : opG D G meth ops tm L m o = some e) (hp : allP e.pre) {E : Env} {a : Act} {w : World} (R : RelF tm L E a w)
    (hm : ∀ i ∈ e.upd.map (·.1), m ≤ i → (E i).st = .dead) {i : Nat} (ho : ops[i]? = some o) {K : Act → World → Prop} {Q : Exit → Act → World → Prop}
    (hK : ∀ a' w' E', RelF (putT tm o.dst e.v) (updL L e.upd) E' a' w' → Fr E w E' w' → (∀ i, (E' i).st ≠ .dead → (E i).st ≠ .dead ∨ (i ∈ e.upd.map (·.1) ∧ m ≤ i)) → K a' w') :
    wpOp P ops Q i K a w := by
  unfold wpOp
  rw [ho]
  dsimp only
  have hρ : ∀ x, SR E (St.ev ⟨tm, []⟩ x) (a.eval x) := ev_ok R.tms []
  obtain ⟨dst, op, ty, pos, after, gu⟩ := o
  unfold opG at he
  dsimp only at he hK ⊢
  cases gu with
  | none =>
    dsimp only at he
    have hw : Region.wanted ⟨dst, op, ty, pos, after, none⟩ (yielded ops a.tmps) = true := rfl
    rw [if_pos hw]
    refine .inl (opX_ok gd hG hM hρ R.hp ty pos after none dst (fun _ => rfl) op he hp hm K Q a fun v w' E' h1 h2 h3 h4 => hK _ w' E' (R.put h1 h2 h3) h3 h4)
  | some g =>
    obtain ⟨j, want⟩ := g
    simp only [Option.bind_eq_some_iff] at he
    obtain ⟨d, hd, c, hc, he⟩ := he
    have hwant : Region.wanted ⟨dst, op, ty, pos, after, some (j, want)⟩ (yielded ops a.tmps) = c := by
      have hj : ∃ t, ops[j]? = some t ∧ t.dst = some d := by simpa [Option.bind_eq_some_iff] using hd
      obtain ⟨t, ht, htd⟩ := hj
      have hs := R.tms d
      have hy : ∀ g, a.tmps.getD d undef = .bool g → yielded ops a.tmps j = some g := fun g hg => by
        simp only [yielded, ht, Option.bind_some, htd]
        rw [Array.getD_eq_getD_getElem?] at hg
        cases h : a.tmps[d]? with
        | none => rw [h] at hg; cases hg
        | some v => rw [h] at hg; simp at hg; rw [hg]
      have hn : a.tmps.getD d undef = undef → yielded ops a.tmps j = none := fun hg => by
        simp only [yielded, ht, Option.bind_some, htd]
        rw [Array.getD_eq_getD_getElem?] at hg
        cases h : a.tmps[d]? with
        | none => rfl
        | some v => rw [h] at hg; simp at hg; rw [hg]; rfl
      simp only [Region.wanted]
      unfold guardC at hc
      split at hc
      · rename_i g heq
        cases hc
        rw [heq] at hs
        rw [hy g (AR.bool (E := E) hs)]
        cases want <;> cases g <;> rfl
      · rename_i p g heq
        cases hc
        rw [heq] at hs
        cases p with
        | true =>
          rw [hy g (AR.bool (E := E) (hs.1 rfl))]
          cases want <;> cases g <;> rfl
        | false =>
          rw [hn (hs.2 rfl)]
          rfl
      · cases hc
    rw [hwant]
    cases hs : isSplit ops 20 j with
    | true =>
      rw [hs] at he
      cases c with
      | true =>
        rw [if_pos rfl]
        exact .inl (opX_ok gd hG hM hρ R.hp ty pos after (some (j, want)) dst (fun _ => rfl) op he hp hm K Q a fun v w' E' h1 h2 h3 h4 => hK _ w' E' (R.put h1 h2 h3) h3 h4)
      | false =>
        rw [if_neg (by simp)]
        cases he
        exact hK _ w E (R.put (And.intro (fun h => absurd h (by simp)) (fun _ => rfl)) R.hp (Fr.refl E w)) (Fr.refl E w) (fun i hi => .inl hi)
    | false =>
      rw [hs] at he
      dsimp only at he
      rw [Option.bind_eq_some_iff] at he
      obtain ⟨e0, he0, hu⟩ := he
      obtain ⟨u1, u2, u3, u4, u5⟩ := under_upd hu
      cases c with
      | true =>
        rw [if_pos rfl]
        refine .inl (opX_ok gd hG hM hρ R.hp ty pos after (some (j, want)) dst (fun _ => rfl) op he0 (guardP_ok (by rw [← u3]; exact hp) rfl) (by rw [u1]; intro i hi; cases hi) K Q a fun v w' E' h1 h2 h3 h4 => hK _ w' E' (R.put (under_true u4 h1) ?_ h3) h3 ?_)
        · rw [u2]; rw [u1] at h2; exact h2
        · rw [u1] at h4; rw [u2]; exact h4
      | false =>
        rw [if_neg (by simp)]
        refine hK _ w E (R.put (under_false u4) ?_ (Fr.refl E w)) (Fr.refl E w) (fun i hi => .inl hi)
        rw [u2]; exact R.hp

omit [GTab] in
theorem putH_get (hp : List (Option Blk)) (u : Nat × Option Blk) (h : u.1 ≤ hp.length) (i : Nat) : hpF (putH hp u) i = if i = u.1 then u.2 else hpF hp i := by
  unfold putH
  split
  · rename_i h1
    by_cases e : i = u.1
    · subst e; simp [hpF, h1]
    · simp [hpF, e, List.getElem?_set_ne (fun h => e h.symm)]
  · rename_i h1
    have h2 : u.1 = hp.length := by omega
    rw [if_pos h2]
    by_cases e : i = u.1
    · rw [if_pos e]; rw [e, h2]; simp [hpF]
    · rw [if_neg e]
      simp only [hpF]
      rcases Nat.lt_or_ge i hp.length with h3 | h3
      · rw [List.getElem?_append_left h3]
      · rw [List.getElem?_eq_none (by simp; omega), List.getElem?_eq_none h3]

omit [GTab] in
theorem putH_len (hp : List (Option Blk)) (u : Nat × Option Blk) (h : u.1 ≤ hp.length) : (putH hp u).length = if u.1 < hp.length then hp.length else hp.length + 1 := by
  unfold putH
  split
  · simp
  · have h2 : u.1 = hp.length := by omega
    rw [if_pos h2]; simp

omit [GTab] in
theorem okH_ok : ∀ (us : List (Nat × Option Blk)) (hp : List (Option Blk)), okH hp.length us = true →
    (hpF (us.foldl putH hp) = updL (hpF hp) us) ∧ hp.length ≤ (us.foldl putH hp).length ∧ ∀ i ∈ us.map (·.1), i < (us.foldl putH hp).length
  | [], hp, _ => ⟨rfl, Nat.le_refl _, fun i hi => by cases hi⟩
  | u :: us, hp, h => by
    simp only [okH] at h
    have hle : u.1 ≤ hp.length := by
      split at h
      · rename_i hb; have := Nat.le_of_ble_eq_true hb; omega
      · split at h
        · rename_i hb; have := Nat.eq_of_beq_eq_true hb; omega
        · cases h
    have hok : okH (putH hp u).length us = true := by
      rw [putH_len _ _ hle]
      split at h
      · rename_i hb; have := Nat.le_of_ble_eq_true hb; rw [if_pos (by omega)]; exact h
      · rename_i hb
        split at h
        · rename_i hb2; have := Nat.eq_of_beq_eq_true hb2; rw [if_neg (by omega)]; exact h
        · cases h
    obtain ⟨h1, h2, h3⟩ := okH_ok us (putH hp u) hok
    have hl := putH_len hp u hle
    refine ⟨?_, ?_, fun i hi => ?_⟩
    · rw [List.foldl_cons, h1]
      simp only [updL]
      congr 1
      funext i
      exact putH_get hp u hle i
    · rw [List.foldl_cons]; split at hl <;> omega
    · rw [List.foldl_cons]
      simp only [List.map_cons, List.mem_cons] at hi
      rcases hi with rfl | hi
      · split at hl <;> omega
      · exact h3 i hi

include gd hG hM in
/-- A region, in the order of its list. -/
theorem runOps_ok {ops : Array Oper} {Q : Exit → Act → World → Prop} : ∀ (l : List Oper) (i : Nat) (tm : List SV) (hp : List (Option Blk)) (ps ps' : List Prop) (rs rs' : List Rec) (S' : St),
    runOps D G meth ops l i tm hp ps rs = some (ps', S', rs') → allP ps' → (∀ k, k < l.length → ops[i + k]? = l[k]?) → ∀ (E : Env) (a : Act) (w : World), Rel ⟨tm, hp⟩ E a w →
    (∀ a' w' E', Rel S' E' a' w' → Fr E w E' w' → Q .normal a' w') → wpOps P ops Q (List.range' i l.length) a w
  | [], i, tm, hp, ps, ps', rs, rs', S', h, hps, hl, E, a, w, R, hQ => by
    simp only [runOps, Option.some.injEq, Prod.mk.injEq] at h
    obtain ⟨-, rfl, -⟩ := h
    exact hQ a w E R (Fr.refl E w)
  | o :: l, i, tm, hp, ps, ps', rs, rs', S', h, hps, hl, E, a, w, R, hQ => by
    simp only [runOps, Option.bind_eq_some_iff] at h
    obtain ⟨e, he, h⟩ := h
    split at h
    · rename_i hok
      obtain ⟨k1, k2, k3⟩ := okH_ok _ _ hok
      have hpre : allP e.pre := by
        have := runOps_pre _ _ _ _ _ _ _ _ _ h
        rw [allP_iff] at hps ⊢
        exact fun p hp => hps p (this p (List.mem_append_right _ hp))
      simp only [List.length_cons, List.range'_succ]
      rw [wpOps_cons]
      have h0 := hl 0 (by simp)
      simp only [Nat.add_zero, List.getElem?_cons_zero] at h0
      refine opG_ok gd hG hM he hpre ⟨R.tm, R.sz, R.df, R.hp⟩ (fun j _ hj2 => R.dead j hj2) h0 fun a' w' E' R' F' hlive => ?_
      refine runOps_ok l (i + 1) _ _ _ _ _ _ _ h hps (fun k hk => ?_) E' a' w' ⟨R'.tms, R'.sz, R'.df, by rw [k1]; exact R'.hp, fun j hj => ?_⟩ fun a2 w2 E2 R2 F2 => hQ a2 w2 E2 R2 (F'.trans F2)
      · have := hl (k + 1) (by simpa using hk)
        rw [show i + 1 + k = i + (k + 1) by omega, this, List.getElem?_cons_succ]
      · by_cases hd : (E' j).st = .dead
        · exact hd
        · have hj : (e.upd.foldl putH hp).length ≤ j := hj
          rcases hlive j hd with h1 | ⟨h1, -⟩
          · exact absurd (R.dead j (Nat.le_trans k2 hj)) h1
          · have := k3 j h1; omega
    · cases h
where
  runOps_pre {D : TI} {G : FuncId → Option Spec} {meth : MethT} {ops : Array Oper} : ∀ (l : List Oper) (i : Nat) (tm : List SV) (hp : List (Option Blk)) (ps ps' : List Prop) (rs rs' : List Rec) (S' : St),
      runOps D G meth ops l i tm hp ps rs = some (ps', S', rs') → ∀ p ∈ ps, p ∈ ps'
    | [], i, tm, hp, ps, ps', rs, rs', S', h, p, hp' => by
      simp only [runOps, Option.some.injEq, Prod.mk.injEq] at h
      rw [← h.1]; exact hp'
    | o :: l, i, tm, hp, ps, ps', rs, rs', S', h, p, hp' => by
      simp only [runOps, Option.bind_eq_some_iff] at h
      obtain ⟨e, he, h⟩ := h
      split at h
      · exact runOps_pre l _ _ _ _ _ _ _ _ h p (List.mem_append_left _ hp')
      · cases h

end
end Go.SL

/- S-logic, part 20: what operations look at. -/
namespace Go.SL
open Go
variable [GTab]

theorem opE_ρ {D : TI} {ρ ρ' : Operand → SV} {L : Nat → Option Blk} {m : Nat} (op : Op) (h : ∀ x ∈ op.operands, ρ x = ρ' x) : opE D ρ L m op = opE D ρ' L m op := by
  have pairs : ∀ ps : Array (Nat × Operand), (∀ x ∈ ps.map (·.2), ρ x = ρ' x) → (ps.toList.map fun q => ρ q.2) = (ps.toList.map fun q => ρ' q.2) := fun ps hp =>
    List.map_congr_left fun q hq => hp q.2 (Array.mem_map.2 ⟨q, by simpa using hq, rfl⟩)
  have arr : ∀ ps : Array Operand, (∀ x ∈ ps, ρ x = ρ' x) → ps.toList.map ρ = ps.toList.map ρ' := fun ps hp =>
    List.map_congr_left fun q hq => hp q (by simpa using hq)
  cases op <;> simp only [Op.operands] at h
  case build t ps => simp only [opE]; rw [pairs ps fun x hx => h x (by simpa using hx)]
  case buildSlice t n ps => simp only [opE]; rw [pairs ps fun x hx => h x (by simpa using hx)]
  case makeFunc fn a c =>
    simp only [opE]
    rw [arr a fun x hx => h x (by simp [hx]), arr c fun x hx => h x (by simp [hx])]
  case slice t x lo hi mx =>
    simp only [opE]
    cases lo <;> cases hi <;> cases mx <;> simp_all
  case call c =>
    obtain ⟨callee, args, ats⟩ := c
    cases callee with
    | builtin b =>
      simp only [opE]
      rw [arr args fun x hx => h x (by simp [Call.operands, hx])]
    | _ => rfl
  case load t a =>
    have h := h a (by simp)
    cases a <;> simp only [opE, h]
  case indexAddr t a i =>
    have h1 := h a (by simp)
    have h2 := h i (by simp)
    cases a <;> simp only [opE, h1, h2]
  case makeMap t r => cases r <;> rfl
  all_goals (simp only [opE]; try simp_all)

theorem opX_ρ {D : TI} {G : FuncId → Option Spec} {meth : MethT} {ρ ρ' : Operand → SV} {L : Nat → Option Blk} {m : Nat} (op : Op) (h : ∀ x ∈ op.operands, ρ x = ρ' x) :
    opX D G meth ρ L m op = opX D G meth ρ' L m op := by
  have arr : ∀ ps : Array Operand, (∀ x ∈ ps, ρ x = ρ' x) → ps.toList.map ρ = ps.toList.map ρ' := fun ps hp =>
    List.map_congr_left fun q hq => hp q (by simpa using hq)
  have h0 := h
  cases op
  case call c =>
    obtain ⟨callee, args, ats⟩ := c
    simp only [Op.operands] at h
    cases callee with
    | builtin b => simp only [opX]; exact opE_ρ _ h0
    | value g =>
      simp only [opX]
      rw [arr args fun x hx => h x (by simp [Call.operands, hx]), h g (by simp [Call.operands])]
    | invoke g nm =>
      simp only [opX]
      rw [arr args fun x hx => h x (by simp [Call.operands, hx]), h g (by simp [Call.operands])]
  all_goals (simp only [opX]; exact opE_ρ _ h0)

/-! ### Memory -/

section
variable {D : TI} {ρ : Operand → SV} {L L' : Nat → Option Blk} {m : Nat}

omit [GTab] in
theorem loadE_L {T : Option Ty} {r : Ref} {e : Eff} (he : loadE L T r = some e) (h : ∀ b ∈ e.foot, L b = L' b) : loadE L' T r = some e := by
  unfold loadE at he ⊢
  split at he
  · rename_i b t p
    have hb : L b = L' b := by
      apply h
      simp only [Option.bind_eq_some_iff] at he
      obtain ⟨k, -, ⟨ps, a⟩, -, he⟩ := he
      dsimp only at he
      split at he
      · cases he; simp
      · cases he
    rw [hb] at he; exact he
  · rename_i b t p o n
    have hb : L b = L' b := by
      apply h
      simp only [Option.bind_eq_some_iff] at he
      obtain ⟨k, -, he⟩ := he
      split at he
      · simp only [Option.bind_eq_some_iff] at he
        obtain ⟨⟨ps, l⟩, -, he⟩ := he
        dsimp only at he
        split at he
        · cases he; simp
        · cases he
      · cases he
    rw [hb] at he; exact he
  · cases he

omit [GTab] in
theorem storeE_L {r : Ref} {y : AV} {e : Eff} (he : storeE L r y = some e) (h : ∀ b ∈ e.foot, L b = L' b) : storeE L' r y = some e := by
  unfold storeE at he ⊢
  split at he
  · rename_i b t p
    have hb : L b = L' b := by
      apply h
      simp only [Option.bind_eq_some_iff] at he
      obtain ⟨k, -, ⟨ps, a⟩, -, he⟩ := he
      dsimp only at he
      split at he
      · cases he; simp
      · cases he
    rw [hb] at he; exact he
  · cases he

omit [GTab] in
theorem elsE_L {t : Ty} {r : Ref} {q : List Prop × List t.I × List Nat} (he : elsE L t r = some q) (h : ∀ b ∈ q.2.2, L b = L' b) : elsE L' t r = some q := by
  unfold elsE at he ⊢
  split at he
  · exact he
  · rename_i b u p o n
    have hb : L b = L' b := by
      apply h
      simp only [Option.bind_eq_some_iff] at he
      obtain ⟨k, -, he⟩ := he
      split at he
      · simp only [Option.map_eq_some_iff] at he
        obtain ⟨a, -, rfl⟩ := he; simp
      · cases he
    rw [hb] at he; exact he
  · cases he

omit [GTab] in
theorem appE_L {T : TypeId} {s x : Ref} {e : Eff} (he : appE D L m T s x = some e) (h : ∀ b ∈ e.foot, L b = L' b) : appE D L' m T s x = some e := by
  unfold appE at he ⊢
  simp only [Option.bind_eq_some_iff] at he ⊢
  obtain ⟨el, h1, t, h2, q, h3, he⟩ := he
  refine ⟨el, h1, t, h2, q, elsE_L h3 fun b hb => h b ?_, ?_⟩
  · obtain ⟨ps, ys, fx⟩ := q
    dsimp only at he hb
    split at he
    · split at he
      · cases he
      · cases he; exact hb
    · simp only [Option.bind_eq_some_iff] at he
      obtain ⟨k, -, he⟩ := he
      split at he
      · simp only [Option.map_eq_some_iff] at he
        obtain ⟨⟨qs, l⟩, -, rfl⟩ := he; simp [hb]
      · cases he
    · cases he
  · obtain ⟨ps, ys, fx⟩ := q
    dsimp only at he ⊢
    split at he
    · exact he
    · rename_i b u o n
      have hb : L b = L' b := by
        apply h
        simp only [Option.bind_eq_some_iff] at he
        obtain ⟨k, -, he⟩ := he
        split at he
        · simp only [Option.map_eq_some_iff] at he
          obtain ⟨⟨qs, l⟩, -, rfl⟩ := he; simp
        · cases he
      rw [hb] at he; exact he
    · cases he

omit [GTab] in
theorem convE_L {S T : TypeId} {a : AV} {e : Eff} (he : convE D L m S T a = some e) (h : ∀ b ∈ e.foot, L b = L' b) : convE D L' m S T a = some e := by
  unfold convE at he ⊢
  split at he
  · exact he
  · exact he
  · split at he
    · rename_i hs
      simp only [Option.map_eq_some_iff] at he ⊢
      obtain ⟨q, h1, rfl⟩ := he
      exact ⟨q, elsE_L h1 h, rfl⟩
    · cases he
  · exact he
  · exact he

omit [GTab] in
theorem copyE_L {T : TypeId} {s x : Ref} {e : Eff} (he : copyE D L T s x = some e) (h : ∀ b ∈ e.foot, L b = L' b) : copyE D L' T s x = some e := by
  unfold copyE at he ⊢
  simp only [Option.bind_eq_some_iff] at he ⊢
  obtain ⟨el, h1, t, h2, ⟨ps, ys, fx⟩, h3, he⟩ := he
  refine ⟨el, h1, t, h2, (ps, ys, fx), elsE_L h3 fun b hb => h b ?_, ?_⟩
  · dsimp only at he hb
    split at he
    · cases he; exact hb
    · simp only [Option.bind_eq_some_iff] at he
      obtain ⟨k, -, ⟨qs, l⟩, -, he⟩ := he
      dsimp only at he
      split at he
      · simp only [Option.map_eq_some_iff] at he
        obtain ⟨k', -, rfl⟩ := he; simp [hb]
      · cases he
    · cases he
  · dsimp only at he ⊢
    split at he
    · exact he
    · rename_i b u p o n
      have hb : L b = L' b := by
        apply h
        simp only [Option.bind_eq_some_iff] at he
        obtain ⟨k, -, ⟨qs, l⟩, -, he⟩ := he
        dsimp only at he
        split at he
        · simp only [Option.map_eq_some_iff] at he
          obtain ⟨k', -, rfl⟩ := he; simp
        · cases he
      rw [hb] at he; exact he
    · cases he

omit [GTab] in
theorem sliceE_L {T : TypeId} {x : AV} {lo hi mx : Option Int} {e : Eff} (he : sliceE D L T x lo hi mx = some e) (h : ∀ b ∈ e.foot, L b = L' b) : sliceE D L' T x lo hi mx = some e := by
  unfold sliceE at he ⊢
  split at he
  · rename_i kk b t i p
    have hb : L b = L' b := by
      apply h
      split at he
      · split at he
        · split at he
          · cases he
          · simp only [Option.bind_eq_some_iff] at he
            obtain ⟨k, -, ⟨qs, ys⟩, -, he⟩ := he
            dsimp only at he
            split at he
            · cases he; simp
            · cases he
        · cases he
      · cases he
    rw [hb] at he; exact he
  all_goals exact he

omit [GTab] in
theorem lookupE_L {T : TypeId} {r : Ref} {a : AV} {ok : Bool} {e : Eff} (he : lookupE D L T r a ok = some e) (h : ∀ b ∈ e.foot, L b = L' b) : lookupE D L' T r a ok = some e := by
  unfold lookupE at he ⊢
  simp only [Option.bind_eq_some_iff] at he ⊢
  obtain ⟨⟨K, V⟩, h1, x, h2, he⟩ := he
  refine ⟨(K, V), h1, x, h2, ?_⟩
  dsimp only at he ⊢
  split at he
  · rename_i b
    have hb : L b = L' b := by
      apply h
      simp only [Option.bind_eq_some_iff, Option.map_eq_some_iff] at he
      obtain ⟨k, -, l, -, he⟩ := he
      cases ok <;> (cases he; simp)
    rw [hb] at he; exact he
  · cases he

omit [GTab] in
theorem updateE_L {T : TypeId} {r : Ref} {a y : AV} {e : Eff} (he : updateE D L T r a y = some e) (h : ∀ b ∈ e.foot, L b = L' b) : updateE D L' T r a y = some e := by
  unfold updateE at he ⊢
  simp only [Option.bind_eq_some_iff] at he ⊢
  obtain ⟨⟨K, V⟩, h1, x, h2, z, h3, he⟩ := he
  refine ⟨(K, V), h1, x, h2, z, h3, ?_⟩
  dsimp only at he ⊢
  split at he
  · rename_i b
    have hb : L b = L' b := by
      apply h
      simp only [Option.bind_eq_some_iff, Option.map_eq_some_iff] at he
      obtain ⟨k, -, l, -, he⟩ := he
      cases he; simp
    rw [hb] at he; exact he
  · cases he

theorem opE_L {op : Op} {e : Eff} (he : opE D ρ L m op = some e) (h : ∀ b ∈ e.foot, L b = L' b) : opE D ρ L' m op = some e := by
  cases op
  case load T x =>
    simp only [opE] at he ⊢
    split at he
    · exact he
    · split at he
      · exact he
      · simp only [Option.bind_eq_some_iff, Option.map_eq_some_iff] at he ⊢
        obtain ⟨q, h1, e', h2, rfl⟩ := he
        exact ⟨q, h1, e', loadE_L h2 h, rfl⟩
  case store T x y =>
    simp only [opE, Option.bind_eq_some_iff] at he ⊢
    obtain ⟨q, h1, q2, h2, he⟩ := he
    refine ⟨q, h1, q2, h2, ?_⟩
    split at he
    · rename_i hT
      simp only [Option.map_eq_some_iff] at he ⊢
      obtain ⟨e', h2, rfl⟩ := he
      exact ⟨e', storeE_L h2 h, rfl⟩
    · cases he
  case slice T x lo hi mx =>
    simp only [opE, Option.bind_eq_some_iff, Option.map_eq_some_iff] at he ⊢
    obtain ⟨q1, h1, q2, h2, q3, h3, q4, h4, e', h5, rfl⟩ := he
    exact ⟨q1, h1, q2, h2, q3, h3, q4, h4, e', sliceE_L h5 h, rfl⟩
  case convert S T x =>
    simp only [opE, Option.bind_eq_some_iff, Option.map_eq_some_iff] at he ⊢
    obtain ⟨q, h1, e', h2, rfl⟩ := he
    exact ⟨q, h1, e', convE_L h2 h, rfl⟩
  case call c =>
    obtain ⟨callee, args, ats⟩ := c
    cases callee with
    | builtin b =>
      simp only [opE, Option.bind_eq_some_iff] at he ⊢
      obtain ⟨⟨ps, as⟩, h1, he⟩ := he
      refine ⟨⟨ps, as⟩, h1, ?_⟩
      generalize ats.toList = tl at he ⊢
      clear h1
      split at he <;> try exact he
      split at he
      · rename_i hT
        simp only [Option.map_eq_some_iff] at he ⊢
        obtain ⟨e', h2, rfl⟩ := he
        exact ⟨e', appE_L h2 h, rfl⟩
      · cases he
      split at he
      · rename_i hT
        simp only [Option.map_eq_some_iff] at he ⊢
        obtain ⟨e', h2, rfl⟩ := he
        exact ⟨e', copyE_L h2 h, rfl⟩
      · cases he
    | _ => exact he
  case lookup T x i ok =>
    simp only [opE, Option.bind_eq_some_iff, Option.map_eq_some_iff] at he ⊢
    obtain ⟨q1, h1, q2, h2, e', h3, rfl⟩ := he
    exact ⟨q1, h1, q2, h2, e', lookupE_L h3 h, rfl⟩
  case mapUpdate T x i y =>
    simp only [opE, Option.bind_eq_some_iff, Option.map_eq_some_iff] at he ⊢
    obtain ⟨q1, h1, q2, h2, q3, h3, e', h4, rfl⟩ := he
    exact ⟨q1, h1, q2, h2, q3, h3, e', updateE_L h4 h, rfl⟩
  case insert T x i y =>
    simp only [opE, Option.bind_eq_some_iff, Option.map_eq_some_iff] at he ⊢
    obtain ⟨q1, h1, q2, h2, q3, h3, e', h4, rfl⟩ := he
    exact ⟨q1, h1, q2, h2, q3, h3, e', updateE_L h4 h, rfl⟩
  case makeMap T r => cases r <;> exact he
  all_goals exact he

end

omit [GTab] in
theorem reach_L {L L' : Nat → Option Blk} : ∀ (n : Nat) (todo seen σ : List Nat), reach L n todo seen = some σ → seen.Nodup → (∀ i ∈ σ, L i = L' i) → reach L' n todo seen = some σ
  | 0, _, _, _, h, _, _ => by cases h
  | n + 1, [], seen, σ, h, _, _ => h
  | n + 1, i :: todo, seen, σ, h, hn, hL => by
    have hi := (reach_ok _ _ _ _ h hn).2.1 i (by simp)
    simp only [reach] at h ⊢
    split at h
    · rename_i he
      exact reach_L n _ _ _ h hn hL
    · rename_i he
      rw [← hL i hi]
      simp only [Option.bind_eq_some_iff] at h ⊢
      obtain ⟨b, hb, h⟩ := h
      have he : i ∉ seen := by simpa using he
      exact ⟨b, hb, reach_L n _ _ _ h (List.nodup_append.2 ⟨hn, by simp, fun x hx y hy e => by simp at hy; subst hy; subst e; exact he hx⟩) hL⟩

omit [GTab] in
theorem filterMap_same {α β : Type} {f g : α → Option β} : ∀ (l : List α), (∀ x ∈ l, f x = g x) → l.filterMap g = l.filterMap f
  | [], _ => rfl
  | x :: l, h => by
    rw [List.filterMap_cons, List.filterMap_cons, h x (by simp), filterMap_same l fun y hy => h y (by simp [hy])]

omit [GTab] in
theorem callE_L {G : FuncId → Option Spec} {L L' : Nat → Option Blk} {m : Nat} {f : FuncId} {as : List AV} {e : Eff} (he : callE G L m f as = some e) (h : ∀ b ∈ e.foot, L b = L' b) : callE G L' m f as = some e := by
  simp only [callE, Option.bind_eq_some_iff] at he ⊢
  obtain ⟨spec, hs, σ, hr, o, ho, he⟩ := he
  have hf : e.foot = σ := by
    split at he
    · cases he; rfl
    · cases he
  rw [hf] at h
  refine ⟨spec, hs, σ, reach_L _ _ _ _ hr List.nodup_nil h, o, ?_, he⟩
  rw [← ho]
  congr 1
  exact filterMap_same _ fun i hi => by rw [h i hi]

theorem opX_L {D : TI} {G : FuncId → Option Spec} {meth : MethT} {ρ : Operand → SV} {L L' : Nat → Option Blk} {m : Nat} {op : Op} {e : Eff} (he : opX D G meth ρ L m op = some e) (h : ∀ b ∈ e.foot, L b = L' b) :
    opX D G meth ρ L' m op = some e := by
  cases op
  case call c =>
    obtain ⟨callee, args, ats⟩ := c
    cases callee with
    | builtin b =>
      simp only [opX] at he ⊢
      exact opE_L he h
    | value g =>
      simp only [opX, Option.bind_eq_some_iff, Option.map_eq_some_iff] at he ⊢
      obtain ⟨q1, h1, q2, h2, q3, h3, q4, h4, q5, h5, e', h6, rfl⟩ := he
      exact ⟨q1, h1, q2, h2, q3, h3, q4, h4, q5, h5, e', callE_L h6 h, rfl⟩
    | invoke g nm =>
      simp only [opX, Option.bind_eq_some_iff] at he ⊢
      obtain ⟨q1, h1, he⟩ := he
      refine ⟨q1, h1, ?_⟩
      split at he
      · rename_i hx
        simp only [Option.bind_eq_some_iff] at he ⊢
        obtain ⟨⟨f, o⟩, h2, q3, h3, he⟩ := he
        refine ⟨⟨f, o⟩, h2, q3, h3, ?_⟩
        dsimp only at he ⊢
        cases o with
        | none =>
          simp only [Option.bind_eq_some_iff, Option.map_eq_some_iff] at he ⊢
          obtain ⟨q4, h4, e', h6, rfl⟩ := he
          exact ⟨q4, h4, e', callE_L h6 h, rfl⟩
        | some U =>
          simp only [Option.bind_eq_some_iff, Option.map_eq_some_iff] at he ⊢
          obtain ⟨l, hl, q4, h4, e', h6, rfl⟩ := he
          exact ⟨l, loadE_L hl fun b hb => h b (List.mem_append.2 (.inl hb)), q4, h4, e', callE_L h6 fun b hb => h b (List.mem_append.2 (.inr hb)), rfl⟩
      · cases he
  all_goals (simp only [opX] at he ⊢; exact opE_L he h)

theorem opG_congr {D : TI} {G : FuncId → Option Spec} {meth : MethT} {ops : Array Oper} {tm tm' : List SV} {L L' : Nat → Option Blk} {m : Nat} {o : Oper} {e : Eff} (he : opG D G meth ops tm L m o = some e)
    (ht : ∀ t ∈ o.looksAt ops, tm.getD t .any = tm'.getD t .any) (h : ∀ b ∈ e.foot, L b = L' b) : opG D G meth ops tm' L' m o = some e := by
  have hρ : ∀ x ∈ o.op.operands, St.ev ⟨tm, []⟩ x = St.ev ⟨tm', []⟩ x := by
    intro x hx
    cases x with
    | tmp t => exact ht t (List.mem_append_left _ (List.mem_filterMap.2 ⟨.tmp t, by simpa using hx, rfl⟩))
    | _ => rfl
  unfold opG at he ⊢
  dsimp only at he ⊢
  split at he
  · rw [opX_ρ o.op hρ] at he
    exact opX_L he h
  · rename_i j want hg
    simp only [Option.bind_eq_some_iff] at he ⊢
    obtain ⟨d, hd, c, hc, he⟩ := he
    have hd2 : (ops[j]?).bind (·.dst) = some d := by simpa [Option.bind_eq_some_iff] using hd
    refine ⟨d, hd, c, ?_, ?_⟩
    · rw [← ht d (List.mem_append_right _ (by simp [hg, hd2]))]; exact hc
    · cases hs : isSplit ops 20 j with
      | true =>
        rw [hs] at he
        cases c with
        | true =>
          dsimp only at he ⊢
          rw [opX_ρ o.op hρ] at he
          exact opX_L he h
        | false => exact he
      | false =>
        rw [hs] at he
        dsimp only at he ⊢
        rw [Option.bind_eq_some_iff] at he ⊢
        obtain ⟨e0, he0, hu⟩ := he
        refine ⟨e0, ?_, hu⟩
        rw [opX_ρ o.op hρ] at he0
        refine opX_L he0 fun b hb => h b ?_
        rw [(under_upd hu).2.2.2.2]; exact hb

end Go.SL

/- S-logic, part 21: regions in any order. -/
namespace Go.SL
open Go
variable [GTab]

/-! ### One key -/

def sel {β : Type} (D : Nat → Bool) (f : Rec → Option β) : β → List Rec → β
  | x, [] => x
  | x, r :: l => sel D f (if D r.i then (f r).getD x else x) l

omit [GTab] in
theorem sel_congr {β : Type} {D D' : Nat → Bool} {f : Rec → Option β} : ∀ (l : List Rec) (x : β), (∀ r ∈ l, (f r).isSome → D r.i = D' r.i) → sel D f x l = sel D' f x l
  | [], x, _ => rfl
  | r :: l, x, h => by
    simp only [sel]
    have : (if D r.i then (f r).getD x else x) = (if D' r.i then (f r).getD x else x) := by
      cases hf : f r with
      | none => simp
      | some y => rw [h r (by simp) (by simp [hf])]
    rw [this]
    exact sel_congr l _ fun s hs => h s (by simp [hs])

omit [GTab] in
theorem sel_append {β : Type} {D : Nat → Bool} {f : Rec → Option β} : ∀ (l m : List Rec) (x : β), sel D f x (l ++ m) = sel D f (sel D f x l) m
  | [], m, x => rfl
  | r :: l, m, x => by simp only [List.cons_append, sel]; exact sel_append l m _

omit [GTab] in
theorem sel_none {β : Type} {D : Nat → Bool} {f : Rec → Option β} : ∀ (l : List Rec) (x : β), (∀ r ∈ l, (f r).isSome → D r.i = false) → sel D f x l = x
  | [], x, _ => rfl
  | r :: l, x, h => by
    simp only [sel]
    have : (if D r.i then (f r).getD x else x) = x := by
      cases hf : f r with
      | none => simp
      | some y => rw [h r (by simp) (by simp [hf])]; simp
    rw [this]
    exact sel_none l _ fun s hs => h s (by simp [hs])

/-! ### All keys -/

def selT (ops : Array Oper) (D : Nat → Bool) (tm : List SV) (rs : List Rec) : List SV := rs.foldl (fun t r => if D r.i then putT t ((ops[r.i]?).bind (·.dst)) r.e.v else t) tm
def selL (D : Nat → Bool) (L : Nat → Option Blk) (rs : List Rec) : Nat → Option Blk := rs.foldl (fun L r => if D r.i then updL L r.e.upd else L) L

def fT (ops : Array Oper) (n t : Nat) (r : Rec) : Option SV := if (ops[r.i]?).bind (·.dst) = some t ∧ t < n then some r.e.v else none

omit [GTab] in
theorem selT_len (ops : Array Oper) (D : Nat → Bool) : ∀ (rs : List Rec) (tm : List SV), (selT ops D tm rs).length = tm.length
  | [], tm => rfl
  | r :: rs, tm => by
    simp only [selT, List.foldl_cons]
    have := selT_len ops D rs (if D r.i then putT tm ((ops[r.i]?).bind (·.dst)) r.e.v else tm)
    simp only [selT] at this
    rw [this]
    split
    · exact putT_len _ _ _
    · rfl

omit [GTab] in
theorem selT_get (ops : Array Oper) (D : Nat → Bool) (t : Nat) : ∀ (rs : List Rec) (tm : List SV), (selT ops D tm rs).getD t .any = sel D (fT ops tm.length t) (tm.getD t .any) rs
  | [], tm => rfl
  | r :: rs, tm => by
    have ih := selT_get ops D t rs (if D r.i then putT tm ((ops[r.i]?).bind (·.dst)) r.e.v else tm)
    simp only [selT, List.foldl_cons, sel] at ih ⊢
    rw [ih]
    have hl : (if D r.i then putT tm ((ops[r.i]?).bind (·.dst)) r.e.v else tm).length = tm.length := by split; exact putT_len _ _ _; rfl
    rw [hl]
    congr 1
    split
    · rw [putT_get]
      unfold fT
      split <;> rfl
    · rfl

def lastU : List (Nat × Option Blk) → Nat → Option (Option Blk)
  | [], _ => none
  | u :: l, b => match lastU l b with
    | some x => some x
    | none => if b = u.1 then some u.2 else none

omit [GTab] in
theorem updL_last : ∀ (us : List (Nat × Option Blk)) (L : Nat → Option Blk) (b : Nat), updL L us b = (lastU us b).getD (L b)
  | [], L, b => rfl
  | u :: us, L, b => by
    simp only [updL, lastU]
    rw [updL_last us]
    cases lastU us b with
    | some x => rfl
    | none => simp only [Option.getD_none]; split <;> rfl

omit [GTab] in
theorem lastU_some : ∀ (us : List (Nat × Option Blk)) (b : Nat), (lastU us b).isSome = true ↔ b ∈ us.map (·.1)
  | [], b => by simp [lastU]
  | u :: us, b => by
    have ih := lastU_some us b
    simp only [lastU, List.map_cons, List.mem_cons]
    cases h : lastU us b with
    | some x => rw [h] at ih; simp at ih ⊢; exact .inr ih
    | none =>
      rw [h] at ih
      simp only [Option.isSome_none, Bool.false_eq_true, false_iff] at ih
      by_cases e : b = u.1
      · simp [e]
      · simp [e]; simpa using ih

omit [GTab] in
theorem selL_get (D : Nat → Bool) (b : Nat) : ∀ (rs : List Rec) (L : Nat → Option Blk), selL D L rs b = sel D (fun r => lastU r.e.upd b) (L b) rs
  | [], L => rfl
  | r :: rs, L => by
    have ih := selL_get D b rs (if D r.i then updL L r.e.upd else L)
    simp only [selL, List.foldl_cons, sel] at ih ⊢
    rw [ih]
    congr 1
    split
    · rw [updL_last]
    · rfl

/-! ### What a run tells -/

def all : Nat → Bool := fun _ => true

def Trace (D : TI) (G : FuncId → Option Spec) (meth : MethT) (ops : Array Oper) (tm : List SV) (L : Nat → Option Blk) (n : Nat) (rs : List Rec) : Prop :=
  ∀ pre r post, rs = pre ++ r :: post → r.i = pre.length ∧ n ≤ r.m ∧ r.m ≤ r.n ∧ (∀ i ∈ r.e.upd.map (·.1), i < r.n) ∧ (∀ s ∈ post, r.n ≤ s.m) ∧
    ∃ o, ops[r.i]? = some o ∧ opG D G meth ops (selT ops all tm pre) (selL all L pre) r.m o = some r.e

omit [GTab] in
theorem append_one {α : Type} {pre post rs : List α} {r x : α} (h : rs ++ [x] = pre ++ r :: post) : (post = [] ∧ pre = rs ∧ r = x) ∨ ∃ post', post = post' ++ [x] ∧ rs = pre ++ r :: post' := by
  rcases List.eq_nil_or_concat post with rfl | ⟨p, y, rfl⟩
  · left
    have := List.append_inj' h rfl
    simp at this
    exact ⟨rfl, this.1.symm, this.2.symm⟩
  · right
    rw [List.concat_eq_append] at *
    have h' : rs ++ [x] = (pre ++ r :: p) ++ [y] := by simpa using h
    have := List.append_inj' h' rfl
    simp at this
    exact ⟨p, by rw [this.2], this.1⟩

omit [GTab] in
theorem selT_snoc (ops : Array Oper) (tm : List SV) (rs : List Rec) (r : Rec) : selT ops all tm (rs ++ [r]) = putT (selT ops all tm rs) ((ops[r.i]?).bind (·.dst)) r.e.v := by
  simp [selT, all]
omit [GTab] in
theorem selL_snoc (L : Nat → Option Blk) (rs : List Rec) (r : Rec) : selL all L (rs ++ [r]) = updL (selL all L rs) r.e.upd := by
  simp [selL, all]

theorem runOps_tr {D : TI} {G : FuncId → Option Spec} {meth : MethT} {ops : Array Oper} {tm0 : List SV} {L0 : Nat → Option Blk} {n0 : Nat} : ∀ (l : List Oper) (i : Nat) (tm : List SV) (hp : List (Option Blk)) (ps ps' : List Prop) (rs rs' : List Rec) (S' : St),
    runOps D G meth ops l i tm hp ps rs = some (ps', S', rs') → (∀ k, k < l.length → ops[i + k]? = l[k]?) → rs.length = i → Trace D G meth ops tm0 L0 n0 rs → tm = selT ops all tm0 rs → hpF hp = selL all L0 rs →
    (∀ r ∈ rs, r.n ≤ hp.length) → n0 ≤ hp.length → (∀ r ∈ rs, ∀ p ∈ r.e.pre, p ∈ ps) →
    rs'.length = i + l.length ∧ Trace D G meth ops tm0 L0 n0 rs' ∧ S'.tm = selT ops all tm0 rs' ∧ hpF S'.hp = selL all L0 rs' ∧ (∀ r ∈ rs', r.n ≤ S'.hp.length) ∧ n0 ≤ S'.hp.length ∧ (∀ r ∈ rs', ∀ p ∈ r.e.pre, p ∈ ps')
  | [], i, tm, hp, ps, ps', rs, rs', S', h, _, h1, h2, h3, h4, h5, h6, h7 => by
    simp only [runOps, Option.some.injEq, Prod.mk.injEq] at h
    obtain ⟨rfl, rfl, rfl⟩ := h
    exact ⟨by simpa using h1, h2, h3, h4, h5, h6, h7⟩
  | o :: l, i, tm, hp, ps, ps', rs, rs', S', h, hl, h1, h2, h3, h4, h5, h6, h7 => by
    simp only [runOps, Option.bind_eq_some_iff] at h
    obtain ⟨e, he, h⟩ := h
    split at h
    · rename_i hok
      obtain ⟨k1, k2, k3⟩ := okH_ok _ _ hok
      have h0 := hl 0 (by simp)
      simp only [Nat.add_zero, List.getElem?_cons_zero] at h0
      have := runOps_tr (tm0 := tm0) (L0 := L0) (n0 := n0) l (i + 1) _ _ _ _ _ _ _ h (fun k hk => by
          have := hl (k + 1) (by simpa using hk)
          rw [show i + 1 + k = i + (k + 1) by omega, this, List.getElem?_cons_succ]) (by simp [h1]) ?_ ?_ ?_ ?_ (Nat.le_trans h6 k2) ?_
      · rw [List.length_cons]; rw [show i + (l.length + 1) = i + 1 + l.length by omega]; exact this
      · intro pre r post hd
        rcases append_one hd with ⟨rfl, rfl, rfl⟩ | ⟨p, rfl, hd'⟩
        · refine ⟨h1.symm, h6, k2, k3, fun s hs => absurd hs List.not_mem_nil, o, h0, ?_⟩
          rw [← h3, ← h4]; exact he
        · obtain ⟨a1, a2, a3, a4, a5, a6⟩ := h2 pre r p hd'
          refine ⟨a1, a2, a3, a4, fun s hs => ?_, a6⟩
          rcases List.mem_append.1 hs with hs | hs
          · exact a5 s hs
          · rw [List.mem_singleton] at hs; subst hs
            exact h5 r (by rw [hd']; simp)
      · rw [selT_snoc, ← h3, h0]; rfl
      · rw [selL_snoc, ← h4, k1]
      · intro r hr
        rcases List.mem_append.1 hr with hr | hr
        · exact Nat.le_trans (h5 r hr) k2
        · rw [List.mem_singleton] at hr; subst hr; exact Nat.le_refl _
      · intro r hr p hp'
        rcases List.mem_append.1 hr with hr | hr
        · exact List.mem_append_left _ (h7 r hr p hp')
        · rw [List.mem_singleton] at hr; subst hr; exact List.mem_append_right _ hp'
    · cases h

/-! ### What must come first -/

omit [GTab] in
theorem foldl_or {acc : Array Nat} {a : Nat} : ∀ (l : List Edge) (s : Nat), (l.foldl (fun s e => if Region.binds .any e then s ||| 2 ^ e.on ||| acc.getD e.on 0 else s) s).testBit a = true →
    s.testBit a = true ∨ ∃ e ∈ l, Region.binds .any e = true ∧ (a = e.on ∨ (acc.getD e.on 0).testBit a = true)
  | [], s, h => .inl h
  | e :: l, s, h => by
    rw [List.foldl_cons] at h
    rcases foldl_or l _ h with h | ⟨e', he, h⟩
    · split at h
      · rename_i hb
        simp only [Nat.testBit_or, Bool.or_eq_true] at h
        rcases h with (h | h) | h
        · exact .inl h
        · right
          refine ⟨e, by simp, hb, .inl ?_⟩
          rw [Nat.testBit_two_pow] at h
          simpa using (of_decide_eq_true h).symm
        · exact .inr ⟨e, by simp, hb, .inr h⟩
      · exact .inl h
    · exact .inr ⟨e', by simp [he], h⟩

omit [GTab] in
theorem before_ok {ops : Array Oper} {C : Nat → Prop} (hC : ∀ k o, ops[k]? = some o → C k → ∀ e ∈ o.after, Region.binds .any e = true → C e.on) {b a : Nat} (h : ((Region.before ops).getD b 0).testBit a = true) (hb : C b) : C a := by
  have key : ∀ (l : List Oper) (acc : Array Nat), (∀ k, k < l.length → ops[acc.size + k]? = l[k]?) → (∀ b a, (acc.getD b 0).testBit a = true → C b → C a) →
      ∀ b a, ((l.foldl (fun acc o => acc.push (o.after.foldl (fun s e => if Region.binds .any e then s ||| 2 ^ e.on ||| acc.getD e.on 0 else s) 0)) acc).getD b 0).testBit a = true → C b → C a := by
    intro l
    induction l with
    | nil => exact fun acc _ h => h
    | cons o l ih =>
      intro acc hl hacc
      rw [List.foldl_cons]
      have h0 := hl 0 (by simp)
      simp only [Nat.add_zero, List.getElem?_cons_zero] at h0
      refine ih _ (fun k hk => ?_) (fun b a h hb => ?_)
      · have := hl (k + 1) (by simpa using hk)
        rw [Array.size_push, show acc.size + 1 + k = acc.size + (k + 1) by omega, this, List.getElem?_cons_succ]
      · rw [Array.getD_eq_getD_getElem?, Array.getElem?_push] at h
        split at h
        · rename_i e
          subst e
          simp only [Option.getD_some] at h
          rw [← Array.foldl_toList] at h
          rcases foldl_or _ _ h with h | ⟨e, he, hbd, h⟩
          · simp at h
          · have hce := hC _ o h0 hb e (by simpa using he) hbd
            rcases h with rfl | h
            · exact hce
            · exact hacc _ _ h hce
        · rw [← Array.getD_eq_getD_getElem?] at h
          exact hacc b a h hb
  have hbf : Region.before ops = ops.toList.foldl (fun acc o => acc.push (o.after.foldl (fun s e => if Region.binds .any e then s ||| 2 ^ e.on ||| acc.getD e.on 0 else s) 0)) #[] := by
    rw [Region.before, ← Array.foldl_toList]
  rw [hbf] at h
  exact key ops.toList #[] (fun k hk => by simp) (fun b a h => by simp at h) b a h hb

end Go.SL

/- S-logic, part 22: regions in any order, joined. -/
namespace Go.SL
open Go
variable [GTab]

theorem RelF.congr {tm tm' : List SV} {L L' : Nat → Option Blk} {E : Env} {a : Act} {w : World} (R : RelF tm L E a w) (h : ∀ t, tm.getD t .any = tm'.getD t .any) (hl : tm.length = tm'.length) (hL : L = L') : RelF tm' L' E a w where
  tms := fun i => by rw [← h]; exact R.tms i
  sz := by rw [← hl]; exact R.sz
  df := R.df
  hp := by rw [← hL]; exact R.hp

omit [GTab] in
theorem meets_false {xs ys : List Nat} (h : meets xs ys = false) : ∀ x ∈ xs, x ∉ ys := by
  intro x hx hy
  have : meets xs ys = true := List.any_eq_true.2 ⟨x, hx, by simpa using hy⟩
  rw [h] at this; cases this

omit [GTab] in
theorem clash_of {ops : Array Oper} {a b : Rec} {x y : Oper} (hx : ops[a.i]? = some x) (hy : ops[b.i]? = some y)
    (h : x.apart ops y = true → (∀ i ∈ a.e.upd.map (·.1), i ∉ b.e.upd.map (·.1) ∧ i ∉ b.e.foot) → (∀ i ∈ b.e.upd.map (·.1), i ∉ a.e.foot) → False) : clash ops a b = true := by
  cases hc : clash ops a b with
  | true => rfl
  | false =>
    exfalso
    simp only [clash, clashL, Rec.lite, hx, hy, Bool.or_eq_false_iff, Bool.not_eq_false'] at hc
    obtain ⟨⟨h1, h2⟩, h3⟩ := hc
    refine h h1 (fun i hi => ?_) (meets_false h3)
    have := meets_false h2 i hi
    rw [List.mem_append] at this
    exact ⟨fun h => this (.inl h), fun h => this (.inr h)⟩

section
variable {P : Program} {D : TI} (gd : Good P D) {G : FuncId → Option Spec} (hG : Sound P G) {meth : MethT} (hM : Meth P meth)
variable {ops : Array Oper} {tm : List SV} {L0 : Nat → Option Blk} {n0 : Nat} {rs : List Rec} (hT : Trace D G meth ops tm L0 n0 rs) (hn : rs.length = ops.size)

include hT in
theorem Trace.pre {pre : List Rec} {r : Rec} {post : List Rec} (h : rs = pre ++ r :: post) : ∀ s ∈ pre, s.i < r.i ∧ s.n ≤ r.m := by
  intro s hs
  obtain ⟨p1, p2, rfl⟩ := List.append_of_mem hs
  obtain ⟨h1, -, -, -, h5, -⟩ := hT p1 s (p2 ++ r :: post) (by rw [h]; simp)
  obtain ⟨k1, -⟩ := hT _ r post h
  refine ⟨?_, h5 r (by simp)⟩
  rw [h1, k1]; simp <;> omega

include hT in
theorem Trace.post {pre : List Rec} {r : Rec} {post : List Rec} (h : rs = pre ++ r :: post) : ∀ s ∈ post, r.i < s.i ∧ r.n ≤ s.m := by
  intro s hs
  obtain ⟨p1, p2, rfl⟩ := List.append_of_mem hs
  obtain ⟨h1, -⟩ := hT (pre ++ r :: p1) s p2 (by rw [h]; simp)
  obtain ⟨k1, -, -, -, k5, -⟩ := hT _ r _ h
  refine ⟨?_, k5 s (by simp)⟩
  rw [h1, k1]; simp <;> omega

include hT hn in
theorem Trace.get {j : Nat} (hj : j < ops.size) : ∃ pre r post, rs = pre ++ r :: post ∧ r.i = j := by
  have hj' : j < rs.length := by omega
  refine ⟨rs.take j, rs[j], rs.drop (j + 1), ?_, ?_⟩
  · rw [List.getElem_cons_drop]; exact (List.take_append_drop j rs).symm
  · have := (hT (rs.take j) rs[j] (rs.drop (j + 1)) (by rw [List.getElem_cons_drop]; exact (List.take_append_drop j rs).symm)).1
    rw [this]; simp; omega

def lst (listed : Array Bool) (i : Nat) : Bool := listed.getD i false

def Closed (ops : Array Oper) (listed : Array Bool) : Prop := ∀ k o, ops[k]? = some o → lst listed k = true → ∀ e ∈ o.after, Region.binds .any e = true → lst listed e.on = true

omit [GTab] in
theorem ready_empty {listed : Array Bool} (hsz : listed.size = ops.size) (hlt : ∀ i o, ops[i]? = some o → ∀ e ∈ o.after, Region.binds .any e = true → e.on < i) (h : Region.ready .any ops listed = []) : ∀ i, i < ops.size → lst listed i = true := by
  intro i
  induction i using Nat.strongRecOn with
  | _ i ih =>
    intro hi
    cases hd : lst listed i with
    | true => rfl
    | false =>
      exfalso
      have : i ∈ Region.ready .any ops listed := by
        rw [mem_ready]
        refine ⟨?_, ops[i], by simp [hi], fun e he hb => ?_⟩
        · simp [lst, hsz, hi] at hd ⊢; exact hd
        · have := hlt i ops[i] (by simp [hi]) e he hb
          exact ih e.on this (by omega)
      rw [h] at this; cases this

omit [GTab] in
theorem cnt_set {listed : Array Bool} {j : Nat} (h : listed.getD j true = false) : (listed.setIfInBounds j true).toList.count false + 1 = listed.toList.count false := by
  have hj : j < listed.size := by
    rcases Nat.lt_or_ge j listed.size with h' | h'
    · exact h'
    · simp [Array.getElem?_eq_none h'] at h
  have hv : listed.toList[j]'(by simpa using hj) = false := by simpa [hj] using h
  have hpos : 0 < listed.toList.count false := List.count_pos_iff.2 (hv ▸ List.getElem_mem _)
  rw [Array.toList_setIfInBounds, List.count_set (by simpa using hj), hv]
  simp only [beq_self_eq_true, if_true, show ((true == false) = true) = False by simp, if_false]
  omega

include gd hG hM hT hn in
theorem any_ok (hP : ∀ r ∈ rs, allP r.e.pre) (hlt : ∀ i o, ops[i]? = some o → ∀ e ∈ o.after, Region.binds .any e = true → e.on < i)
    (hc : ∀ a ∈ rs, ∀ b ∈ rs, a.i < b.i → clash ops a b = true → ((Region.before ops).getD b.i 0).testBit a.i = true) {E0 : Env} {w0 : World} {Q : Exit → Act → World → Prop}
    (hQ : ∀ a w E, RelF (selT ops all tm rs) (selL all L0 rs) E a w → Fr E0 w0 E w → (∀ i, (E i).st ≠ .dead → i < n0 ∨ ∃ r ∈ rs, r.m ≤ i ∧ i < r.n) → Q .normal a w) :
    ∀ (fuel : Nat) (listed : Array Bool) (E : Env) (a : Act) (w : World), listed.size = ops.size → listed.toList.count false ≤ fuel → Closed ops listed → RelF (selT ops (lst listed) tm rs) (selL (lst listed) L0 rs) E a w → Fr E0 w0 E w →
      (∀ i, (E i).st ≠ .dead → i < n0 ∨ ∃ r ∈ rs, lst listed r.i = true ∧ r.m ≤ i ∧ i < r.n) → wpAny P .any ops Q fuel listed a w := by
  have done : ∀ (listed : Array Bool) (E : Env) (a : Act) (w : World), (∀ i, i < ops.size → lst listed i = true) → RelF (selT ops (lst listed) tm rs) (selL (lst listed) L0 rs) E a w → Fr E0 w0 E w →
      (∀ i, (E i).st ≠ .dead → i < n0 ∨ ∃ r ∈ rs, lst listed r.i = true ∧ r.m ≤ i ∧ i < r.n) → Q .normal a w := by
    intro listed E a w hall R F hl
    have hal : ∀ r ∈ rs, lst listed r.i = all r.i := fun r hr => by
      obtain ⟨p1, p2, he⟩ := List.append_of_mem hr
      have := (hT p1 r p2 he).1
      refine hall r.i ?_
      rw [this, ← hn, he]; simp <;> omega
    refine hQ a w E (R.congr (fun t => ?_) ?_ ?_) F fun i hi => ?_
    · rw [selT_get, selT_get]
      exact sel_congr rs _ fun r hr _ => hal r hr
    · rw [selT_len, selT_len]
    · funext b
      rw [selL_get, selL_get]
      exact sel_congr rs _ fun r hr _ => hal r hr
    · rcases hl i hi with h | ⟨r, hr, -, h2, h3⟩
      · exact .inl h
      · exact .inr ⟨r, hr, h2, h3⟩
  intro fuel
  induction fuel with
  | zero =>
    intro listed E a w hsz hcnt hcl R F hl
    have hall : ∀ i, i < ops.size → lst listed i = true := fun i hi => by
      have : false ∉ listed.toList := List.count_eq_zero.1 (Nat.le_zero.1 hcnt)
      have hi' : i < listed.size := by omega
      simp only [lst, Array.getD_eq_getD_getElem?, Array.getElem?_eq_getElem hi', Option.getD_some]
      cases hv : listed[i] with
      | true => rfl
      | false => exact absurd (by rw [← hv]; simp) this
    refine ⟨?_, done listed E a w hall R F hl⟩
    rcases List.eq_nil_or_concat (Region.ready .any ops listed) with h | ⟨p, j, h⟩
    · exact h
    · exfalso
      have hj : j ∈ Region.ready .any ops listed := by rw [h]; simp
      obtain ⟨h1, o, ho, -⟩ := mem_ready.1 hj
      have hj2 : j < ops.size := (Array.getElem?_eq_some_iff.1 ho).1
      have := hall j hj2
      simp only [lst] at this
      have hj3 : j < listed.size := by omega
      simp [hj3] at h1 this
      rw [h1] at this; cases this
  | succ fuel ih =>
    intro listed E a w hsz hcnt hcl R F hl
    refine ⟨fun h => done listed E a w (ready_empty hsz hlt h) R F hl, fun j hj => ?_⟩
    obtain ⟨hjun, oj, hoj, hedge⟩ := mem_ready.1 hj
    have hjs : j < ops.size := (Array.getElem?_eq_some_iff.1 hoj).1
    have hjl : j < listed.size := by omega
    have hjd : lst listed j = false := by simp [lst, hjl] at hjun ⊢; exact hjun
    obtain ⟨pre, r, post, hrs, hri⟩ := hT.get hn hjs
    obtain ⟨hr1, hr2, hr3, hr4, hr5, o, ho, hop⟩ := hT pre r post hrs
    rw [hri, hoj] at ho; cases ho
    have hrm : r ∈ rs := by rw [hrs]; simp
    have hpre := hT.pre hrs
    have hpost := hT.post hrs
    have mpre : ∀ s ∈ pre, s ∈ rs := fun s hs => by rw [hrs]; simp [hs]
    have mpost : ∀ s ∈ post, s ∈ rs := fun s hs => by rw [hrs]; simp [hs]
    have hops : ∀ s ∈ rs, ∃ o, ops[s.i]? = some o := fun s hs => by
      obtain ⟨p1, p2, he⟩ := List.append_of_mem hs
      obtain ⟨-, -, -, -, -, o, ho, -⟩ := hT p1 s p2 he
      exact ⟨o, ho⟩
    -- what clashes has been done, or has not
    have early : ∀ s ∈ pre, clash ops s r = true → lst listed s.i = true := fun s hs hcl2 => by
      have hb := hc s (mpre s hs) r hrm (hpre s hs).1 hcl2
      rw [hri] at hb
      have := before_ok (C := fun k => lst listed k = true ∨ k = j) (fun k o ho hk e he hbd => by
        rcases hk with hk | hk
        · exact .inl (hcl k o ho hk e he hbd)
        · rw [hk, hoj] at ho; cases ho
          exact .inl (hedge e he hbd)) hb (.inr rfl)
      rcases this with h | h
      · exact h
      · have := (hpre s hs).1; omega
    have late : ∀ s ∈ post, clash ops r s = true → lst listed s.i = false := fun s hs hcl2 => by
      have hb := hc r hrm s (mpost s hs) (hpost s hs).1 hcl2
      cases hd : lst listed s.i with
      | false => rfl
      | true =>
        have := before_ok (C := fun k => lst listed k = true) hcl hb hd
        rw [hri, hjd] at this; cases this
    have roj : ops[r.i]? = some oj := by rw [hri]; exact hoj
    -- what it looks at is as it was in the list's order
    have key : ∀ {β : Type} (f : Rec → Option β) (x : β), (∀ s ∈ pre, (f s).isSome → clash ops s r = true) → (∀ s ∈ post, (f s).isSome → clash ops r s = true) →
        sel all f x pre = sel (lst listed) f x rs := by
      intro β f x h1 h2
      rw [hrs, sel_append, sel_none (r :: post)]
      · exact sel_congr pre x fun s hs hf => (early s hs (h1 s hs hf)).symm
      · intro s hs hf
        rcases List.mem_cons.1 hs with rfl | hs
        · rw [hri]; exact hjd
        · exact late s hs (h2 s hs hf)
    have hop' : opG D G meth ops (selT ops (lst listed) tm rs) (selL (lst listed) L0 rs) r.m oj = some r.e := by
      refine opG_congr hop (fun t ht => ?_) (fun b hb => ?_)
      · rw [selT_get, selT_get]
        refine key _ _ (fun s hs hf => ?_) (fun s hs hf => ?_)
        · obtain ⟨os, hos⟩ := hops s (mpre s hs)
          refine clash_of hos roj fun hap _ _ => ?_
          have hd : os.dst = some t := by
            unfold fT at hf; split at hf
            · rename_i h; simpa [hos] using h.1
            · cases hf
          exact (Oper.apart_spec hap).1 t hd ht
        · obtain ⟨os, hos⟩ := hops s (mpost s hs)
          refine clash_of roj hos fun hap _ _ => ?_
          have hd : os.dst = some t := by
            unfold fT at hf; split at hf
            · rename_i h; simpa [hos] using h.1
            · cases hf
          exact (Oper.apart_spec hap).2.2 t hd ht
      · rw [selL_get, selL_get]
        refine key _ _ (fun s hs hf => ?_) (fun s hs hf => ?_)
        · obtain ⟨os, hos⟩ := hops s (mpre s hs)
          exact clash_of hos roj fun _ h2 _ => (h2 b ((lastU_some _ _).1 hf)).2 hb
        · obtain ⟨os, hos⟩ := hops s (mpost s hs)
          exact clash_of roj hos fun _ _ h3 => h3 b ((lastU_some _ _).1 hf) hb
    -- its outcome
    have lst' : ∀ i, lst (listed.setIfInBounds j true) i = (lst listed i || decide (i = j)) := by
      intro i
      by_cases e : i = j
      · subst e; simp [lst, hjl]
      · simp only [lst]; rw [getD_set_ne false (fun h => e h.symm)]; simp [e]
    have keyN : ∀ {β : Type} (f : Rec → Option β) (x : β), (∀ s ∈ post, (f r).isSome → (f s).isSome → clash ops r s = true) →
        sel (lst (listed.setIfInBounds j true)) f x rs = (f r).getD (sel (lst listed) f x rs) := by
      intro β f x h2
      cases hf : f r with
      | none =>
        refine sel_congr rs x fun s hs hfs => ?_
        rw [lst']
        by_cases e : s.i = j
        · exfalso
          have : s = r := by
            rw [hrs] at hs
            rcases List.mem_append.1 hs with h | h
            · have := (hpre s h).1; omega
            · rcases List.mem_cons.1 h with h | h
              · exact h
              · have := (hpost s h).1; omega
          subst this; rw [hf] at hfs; cases hfs
        · simp [e]
      | some v =>
        simp only [Option.getD_some]
        conv => lhs; rw [hrs]
        rw [sel_append]
        simp only [sel]
        rw [lst', hri]
        simp only [decide_true, Bool.or_true, if_true, hf, Option.getD_some]
        refine sel_none post v fun s hs hfs => ?_
        rw [lst']
        have := late s hs (h2 s hs (by rw [hf]; rfl) hfs)
        have h3 := (hpost s hs).1
        rw [this]
        simp; omega
    refine opG_ok gd hG hM hop' (hP r hrm) R (fun i hi hmi => ?_) hoj fun a' w' E' R' F' hl' => ?_
    · cases hst : (E i).st with
      | dead => rfl
      | _ =>
        exfalso
        have hlv : (E i).st ≠ .dead := by rw [hst]; decide
        have hin := hr4 i hi
        rcases hl i hlv with h | ⟨s, hs, hs1, hs2, hs3⟩
        · omega
        · rw [hrs] at hs
          rcases List.mem_append.1 hs with h | h
          · have := (hpre s h).2; omega
          · rcases List.mem_cons.1 h with rfl | h
            · rw [hri, hjd] at hs1; cases hs1
            · have := (hpost s h).2; omega
    · refine ih (listed.setIfInBounds j true) E' a' w' (by simpa using hsz) (by have := cnt_set hjun; omega) (fun k o ho hk e he hb => ?_) (R'.congr (fun t => ?_) ?_ ?_) (F.trans F') fun i hi => ?_
      · rw [lst'] at hk ⊢
        simp only [Bool.or_eq_true, decide_eq_true_eq] at hk ⊢
        rcases hk with hk | rfl
        · exact .inl (hcl k o ho hk e he hb)
        · rw [hoj] at ho; cases ho
          exact .inl (hedge e he hb)
      · rw [putT_get, selT_get, selT_get, selT_len, keyN]
        · simp only [fT, roj, Option.bind_some]
          split <;> rfl
        · intro s hs hfr hfs
          obtain ⟨os, hos⟩ := hops s (mpost s hs)
          refine clash_of roj hos fun hap _ _ => ?_
          unfold fT at hfr hfs
          split at hfr
          · split at hfs
            · rename_i h1 h2
              have e1 : oj.dst = some t := by simpa [roj] using h1.1
              have e2 : os.dst = some t := by simpa [hos] using h2.1
              exact (Oper.apart_spec hap).2.1 t e1 e2
            · cases hfs
          · cases hfr
      · rw [putT_len, selT_len, selT_len]
      · funext b
        rw [updL_last, selL_get, selL_get, keyN]
        intro s hs hfr hfs
        obtain ⟨os, hos⟩ := hops s (mpost s hs)
        exact clash_of roj hos fun _ h2 _ => (h2 b ((lastU_some _ _).1 hfr)).1 ((lastU_some _ _).1 hfs)
      · rcases hl' i hi with h | ⟨h1, h2⟩
        · rcases hl i h with h | ⟨s, hs, hs1, hs2⟩
          · exact .inl h
          · exact .inr ⟨s, hs, by rw [lst', hs1]; rfl, hs2⟩
        · exact .inr ⟨r, hrm, by rw [lst', hri]; simp, h2, hr4 i h1⟩

end

/-! ### The check -/

omit [GTab] in
theorem hasN_iff {x : Nat} : ∀ {l : List Nat}, hasN x l = true ↔ x ∈ l
  | [] => by simp [hasN]
  | y :: l => by
    unfold hasN
    split
    · rename_i h
      have := Nat.eq_of_beq_eq_true h; subst this; simp
    · rename_i h
      have : x ≠ y := fun e => by subst e; simp at h
      rw [hasN_iff]; simp [this]

omit [GTab] in
theorem meetsN_iff : ∀ {l m : List Nat}, meetsN l m = true ↔ ∃ x ∈ l, x ∈ m
  | [], m => by simp [meetsN]
  | x :: l, m => by
    unfold meetsN
    split
    · rename_i h; simp [hasN_iff.1 h]
    · rename_i h
      have : x ∉ m := fun e => by rw [hasN_iff.2 e] at h; cases h
      rw [meetsN_iff]; simp [this]

omit [GTab] in
theorem edgesOk_ok {i : Nat} : ∀ {l : List Edge}, edgesOk i l = true → ∀ e ∈ l, Region.binds .any e = true → e.on < i
  | [], _, e, he, _ => by cases he
  | x :: l, h, e, he, hb => by
    unfold edgesOk at h
    split at h
    · rename_i hlt
      rcases List.mem_cons.1 he with rfl | he
      · exact Nat.le_of_ble_eq_true hlt
      · exact edgesOk_ok h e he hb
    · split at h
      · cases h
      · rename_i hnb
        rcases List.mem_cons.1 he with rfl | he
        · rw [hb] at hnb; cases hnb
        · exact edgesOk_ok h e he hb

omit [GTab] in
theorem pairsOk_ok {b : Row} : ∀ {l : List Row}, pairsOk b l = true → ∀ a ∈ l, b.bf.testBit a.i = true ∨ clashR a b = false
  | [], _, a, ha => by cases ha
  | x :: l, h, a, ha => by
    unfold pairsOk at h
    split at h
    · rename_i ht
      rcases List.mem_cons.1 ha with rfl | ha
      · exact .inl ht
      · exact pairsOk_ok h a ha
    · split at h
      · cases h
      · rename_i hc
        rcases List.mem_cons.1 ha with rfl | ha
        · exact .inr hc
        · exact pairsOk_ok h a ha

def Row.of (ops : Array Oper) (B : List Nat) (o : Oper) (r : Nat × List Nat × List Nat) : Row := ⟨r.1, B.getD r.1 0, o.dst, o.looksAt ops, r.2.1, r.2.2⟩

omit [GTab] in
theorem allOk_ok {ops : Array Oper} {B : List Nat} : ∀ {l : List Oper} {bs : List Nat} {rs : List (Nat × List Nat × List Nat)} {i : Nat} {acc : List Row}, allOk ops i acc l bs rs = true →
    (∀ k, l[k]? = ops.toList[i + k]?) → (∀ k, bs[k]? = B[i + k]?) →
    (∀ k o, l[k]? = some o → ∀ e ∈ o.after.toList, Region.binds .any e = true → e.on < i + k) ∧ (∀ r ∈ rs, i ≤ r.1 ∧ ∃ o, ops[r.1]? = some o) ∧
    (∀ b ∈ rs, ∀ o, ops[b.1]? = some o → ∀ a ∈ acc, (B.getD b.1 0).testBit a.i = true ∨ clashR a (Row.of ops B o b) = false) ∧
    (∀ a ∈ rs, ∀ b ∈ rs, a.1 < b.1 → ∀ x y, ops[a.1]? = some x → ops[b.1]? = some y → (B.getD b.1 0).testBit a.1 = true ∨ clashR (Row.of ops B x a) (Row.of ops B y b) = false)
  | [], _, [], i, acc, _, _, _ => by simp
  | o :: l, bf :: bs, r :: rs, i, acc, h, hl, hB => by
    unfold allOk at h
    split at h
    · rename_i h1 h2 h3
      have e1 : r.1 = i := Nat.eq_of_beq_eq_true h1
      have ho : ops[i]? = some o := by have := hl 0; simpa using this.symm
      have hbf : B.getD i 0 = bf := by have := hB 0; simp at this; simp [List.getD_eq_getElem?_getD, ← this]
      have hrow : (⟨i, bf, o.dst, o.looksAt ops, r.2.1, r.2.2⟩ : Row) = Row.of ops B o r := by unfold Row.of; rw [e1, hbf]
      rw [hrow] at h h3
      obtain ⟨g1, g2, g3, g4⟩ := allOk_ok h (fun k => by have := hl (k + 1); simpa [Nat.add_assoc, Nat.add_comm 1] using this) (fun k => by have := hB (k + 1); simpa [Nat.add_assoc, Nat.add_comm 1] using this)
      refine ⟨fun k o' hk e he hb => ?_, fun x hx => ?_, fun b hb o' ho' a ha => ?_, fun a ha b hb hab x y hx hy => ?_⟩
      · cases k with
        | zero => simp at hk; subst hk; exact edgesOk_ok h2 e he hb
        | succ k => have := g1 k o' (by simpa using hk) e he hb; omega
      · rcases List.mem_cons.1 hx with rfl | hx
        · exact ⟨by omega, o, by rw [e1]; exact ho⟩
        · have := g2 x hx; exact ⟨by omega, this.2⟩
      · rcases List.mem_cons.1 hb with rfl | hb
        · rw [e1, ho] at ho'
          cases ho'
          have := pairsOk_ok h3 a ha
          rw [show (Row.of ops B o b).bf = B.getD b.1 0 from rfl] at this
          exact this
        · exact g3 b hb o' ho' a (List.mem_cons_of_mem _ ha)
      · rcases List.mem_cons.1 ha with rfl | ha
        · rcases List.mem_cons.1 hb with rfl | hb
          · omega
          · rw [e1, ho] at hx
            cases hx
            have := g3 b hb y hy _ (List.mem_cons_self ..)
            simpa [Row.of, e1] using this
        · rcases List.mem_cons.1 hb with e | hb
          · have := (g2 a ha).1; rw [e] at hab; omega
          · exact g4 a ha b hb hab x y hx hy
    · cases h
  | [], _, _ :: _, i, acc, h, _, _ => by simp [allOk] at h
  | _ :: _, [], [], i, acc, h, _, _ => by simp [allOk] at h
  | _ :: _, [], _ :: _, i, acc, h, _, _ => by simp [allOk] at h
  | _ :: _, _ :: _, [], i, acc, h, _, _ => by simp [allOk] at h

omit [GTab] in
theorem clashR_ok {ops : Array Oper} {B : List Nat} {x y : Oper} {a b : Nat × List Nat × List Nat} (hx : ops[a.1]? = some x) (hy : ops[b.1]? = some y) (h : clashR (Row.of ops B x a) (Row.of ops B y b) = false) : clashL ops a b = false := by
  simp only [clashR, Row.of, Bool.or_eq_false_iff] at h
  obtain ⟨h1, h2, h3, h4, h5, h6⟩ := h
  have nm : ∀ {l m : List Nat}, meetsN l m = false → ∀ z ∈ l, z ∉ m := fun h z hz hm => by
    rw [meetsN_iff.2 ⟨z, hz, hm⟩] at h; cases h
  have nh : ∀ {d : Nat} {l : List Nat}, hasN d l = false → l.contains d = false := fun {d l} h => by
    cases hc : l.contains d with
    | false => rfl
    | true => rw [hasN_iff.2 (by simpa using hc)] at h; cases h
  simp only [clashL, hx, hy, Bool.or_eq_false_iff, Bool.not_eq_false', Oper.apart, Bool.and_eq_true]
  refine ⟨⟨⟨?_, ?_⟩, ?_⟩, ?_⟩
  · cases hd : x.dst with
    | none => rfl
    | some d =>
      rw [hd] at h1 h2
      simp only [Bool.and_eq_true, Bool.not_eq_true', bne_iff_ne, ne_eq]
      refine ⟨nh h1, fun e => ?_⟩
      rw [e] at h2
      simp [sameO] at h2
  · cases hd : y.dst with
    | none => rfl
    | some d =>
      rw [hd] at h3
      simp only [Bool.not_eq_true']
      exact nh h3
  · cases hm : meets a.2.1 (b.2.1 ++ b.2.2) with
    | false => rfl
    | true =>
      obtain ⟨z, hz, hz2⟩ := List.any_eq_true.1 hm
      have : z ∈ b.2.1 ++ b.2.2 := by simpa using hz2
      rcases List.mem_append.1 this with h | h
      · exact absurd h (nm h4 z hz)
      · exact absurd h (nm h5 z hz)
  · cases hm : meets b.2.1 a.2.2 with
    | false => rfl
    | true =>
      obtain ⟨z, hz, hz2⟩ := List.any_eq_true.1 hm
      exact absurd (by simpa using hz2) (nm h6 z hz)

omit [GTab] in
theorem drawOk_ok {ops : Array Oper} {rs : List Rec} (h : drawOk ops rs = true) :
    (∀ i o, ops[i]? = some o → ∀ e ∈ o.after.toList, Region.binds .any e = true → e.on < i) ∧
    ∀ a ∈ rs, ∀ b ∈ rs, a.i < b.i → clash ops a b = true → ((Region.before ops).getD b.i 0).testBit a.i = true := by
  unfold drawOk drawR at h
  obtain ⟨g1, g2, g3, g4⟩ := allOk_ok (B := CheckFast.beforeL ops.toList 0 []) h (fun k => by simp) (fun k => by simp)
  have hB : ∀ i, (CheckFast.beforeL ops.toList 0 []).getD i 0 = (Region.before ops).getD i 0 := fun i => by
    rw [← CheckFast.beforeF_eq]
    simp [CheckFast.beforeF, Array.getD, List.getD_eq_getElem?_getD]
    split <;> simp [*]
  refine ⟨fun i o ho e he hb => by have := g1 i o (by simpa using ho) e he hb; omega, fun a ha b hb hab hc => ?_⟩
  have ha' : a.lite ∈ rs.map Rec.lite := List.mem_map_of_mem ha
  have hb' : b.lite ∈ rs.map Rec.lite := List.mem_map_of_mem hb
  obtain ⟨_, x, hx⟩ := g2 _ ha'
  obtain ⟨_, y, hy⟩ := g2 _ hb'
  rcases g4 _ ha' _ hb' hab x y hx hy with h | h
  · rw [hB] at h; exact h
  · have := clashR_ok hx hy h
    rw [show clashL ops a.lite b.lite = true from hc] at this; cases this

/-- A region in any order. -/
theorem draw_ok {P : Program} {D : TI} (gd : Good P D) {G : FuncId → Option Spec} (hG : Sound P G) {meth : MethT} (hM : Meth P meth) {ops : Array Oper} {tm : List SV} {hp : List (Option Blk)} {ps : List Prop} {rs : List Rec} {S' : St}
    (h : runOps D G meth ops ops.toList 0 tm hp [] [] = some (ps, S', rs)) (hps : allP ps) (hd : drawOk ops rs = true) {E : Env} {a : Act} {w : World} (R : Rel ⟨tm, hp⟩ E a w) {Q : Exit → Act → World → Prop}
    (hQ : ∀ a' w' E', Rel S' E' a' w' → Fr E w E' w' → Q .normal a' w') : wpAny P .any ops Q ops.size (Array.replicate ops.size false) a w := by
  obtain ⟨h1, h2, h3, h4, h5, h6, h7⟩ := runOps_tr (tm0 := tm) (L0 := hpF hp) (n0 := hp.length) ops.toList 0 tm hp [] ps [] rs S' h (fun k hk => by simp) rfl (fun pre r post he => by simp at he) rfl rfl (fun r hr => by cases hr) (Nat.le_refl _) (fun r hr => by cases hr)
  obtain ⟨d1, d2⟩ := drawOk_ok hd
  have hl0 : ∀ i, lst (Array.replicate ops.size false) i = false := fun i => by
    simp only [lst, Array.getD_eq_getD_getElem?, Array.getElem?_replicate]
    split <;> rfl
  have hse : ∀ {β : Type} (f : Rec → Option β) (x : β), sel (lst (Array.replicate ops.size false)) f x rs = x := fun f x => sel_none rs x fun r _ _ => hl0 r.i
  refine any_ok gd hG hM h2 (by simpa using h1) (fun r hr => (allP_iff _).2 fun p hp' => (allP_iff _).1 hps p (h7 r hr p hp')) (fun i o ho e he hb => ?_) (fun a ha b hb hab hcl => ?_) (Q := Q) (E0 := E) (w0 := w) (fun a' w' E' R' F' hl' => ?_) ops.size _ E a w (by simp) (by simp) ?_ (RelF.congr ⟨R.tm, R.sz, R.df, R.hp⟩ (fun t => ?_) ?_ ?_) (Fr.refl E w) (fun i hi => ?_)
  · exact d1 i o ho e (by simpa using he) hb
  · exact d2 a ha b hb hab hcl
  · refine hQ a' w' E' ⟨by rw [h3]; exact R'.tms, by rw [h3]; exact R'.sz, R'.df, by rw [h4]; exact R'.hp, fun i hi => ?_⟩ F'
    cases hst : (E' i).st with
    | dead => rfl
    | _ =>
      exfalso
      rcases hl' i (by rw [hst]; decide) with h | ⟨r, hr, -, h⟩
      · omega
      · have := h5 r hr; omega
  · intro k o ho hk
    rw [hl0] at hk; cases hk
  · rw [selT_get, hse]
  · rw [selT_len]
  · funext b; rw [selL_get, hse]
  · left
    rcases Nat.lt_or_ge i hp.length with h | h
    · exact h
    · exact absurd (R.dead i h) hi

end Go.SL

/- S-logic, part 23: states that say less. -/
namespace Go.SL
open Go
variable [GTab]

omit [GTab] in
theorem eqL_ok : ∀ (l m : List Nat) (ps : List Prop), eqL l m = some ps → allP ps → m = l
  | [], [], ps, h, hp => rfl
  | a :: l, b :: m, ps, h, hp => by
    simp only [eqL, Option.map_eq_some_iff] at h
    obtain ⟨qs, h1, rfl⟩ := h
    rw [allP_cons] at hp
    rw [hp.1, eqL_ok l m qs h1 hp.2]
  | [], b :: m, ps, h, hp => by cases h
  | a :: l, [], ps, h, hp => by cases h

section
variable {π : Nat → Nat} {E E' : Env} (hE : ∀ b b', π b = b' → (E b').st ≠ .dead → E' b = E b') {vb : Nat → Bool} (hvb : ∀ b, vb b = true → (E' b).st = .virt)

include hE in
omit [GTab] in
theorem eqP_ok {x y : Ref} {ps : List Prop} (h : eqP π x y = some ps) (hp : allP ps) {v : Value} (hv : VR E y v) : VR E' x v := by
  unfold eqP at h
  split at h
  · rename_i b t p b' t' p'
    split at h
    · rename_i hb ht
      have := of_decide_eq_true ht; subst this
      have := eqL_ok _ _ _ h hp; subst this
      simp only [VR] at hv ⊢
      rw [hE b b' (by simpa using hb) (by rw [hv.1]; decide)]
      exact hv
    · cases h
  · cases h

include hE in
omit [GTab] in
theorem eqPs_ok : ∀ (l m : List Ref) (ps : List Prop), eqPs π l m = some ps → allP ps → ∀ vs, VRs E m vs → VRs E' l vs
  | [], [], ps, h, hp, vs, hv => by simpa [VRs] using hv
  | a :: l, b :: m, ps, h, hp, vs, hv => by
    simp only [eqPs, Option.bind_eq_some_iff, Option.map_eq_some_iff] at h
    obtain ⟨p, h1, q, h2, rfl⟩ := h
    rw [allP_append] at hp
    simp only [VRs] at hv ⊢
    obtain ⟨v, vs', e, k1, k2⟩ := hv
    exact ⟨v, vs', e, eqP_ok hE h1 hp.1 k1, eqPs_ok l m q h2 hp.2 vs' k2⟩
  | [], b :: m, ps, h, hp, vs, hv => by cases h
  | a :: l, [], ps, h, hp, vs, hv => by cases h

include hE hvb in
omit [GTab] in
theorem eqR_ok {x y : Ref} {ps : List Prop} (h : eqR π vb x y = some ps) (hp : allP ps) {v : Value} (hv : VR E y v) : VR E' x v ∧ x.isAgg = y.isAgg := by
  unfold eqR at h
  split at h
  · exact ⟨by simpa [VR] using hv, rfl⟩
  · exact ⟨by simpa [VR] using hv, rfl⟩
  · exact ⟨by simpa [VR] using hv, rfl⟩
  · exact ⟨by simpa [VR] using hv, rfl⟩
  · exact ⟨by simpa [VR] using hv, rfl⟩
  · rename_i b t p b' t' p'
    split at h
    · rename_i hb ht
      have := of_decide_eq_true ht; subst this
      have := eqL_ok _ _ _ h hp; subst this
      simp only [VR] at hv ⊢
      rw [hE b b' (by simpa using hb) (by rw [hv.1]; decide)]
      exact ⟨hv, rfl⟩
    · cases h
  · rename_i b t k
    split at h
    · rename_i hb
      cases h
      have e : k = 0 := hp
      subst e
      refine ⟨?_, rfl⟩
      simp only [VR] at hv ⊢
      exact .inl ⟨hvb b hb, trivial, trivial, hv⟩
    · cases h
  · rename_i b t p o n b' t' p' o' n'
    split at h
    · rename_i hb ht
      have := of_decide_eq_true ht; subst this
      simp only [Option.map_eq_some_iff] at h
      obtain ⟨qs, h1, rfl⟩ := h
      rw [allP_append] at hp
      have := eqL_ok _ _ _ h1 hp.1; subst this
      obtain ⟨rfl, rfl⟩ := hp.2
      simp only [VR] at hv ⊢
      rw [hE b b' (by simpa using hb) (by rcases hv with hv | hv <;> (rw [hv.1]; decide))]
      exact ⟨hv, rfl⟩
    · cases h
  · rename_i b b'
    split at h
    · rename_i hb
      simp only [VR] at hv ⊢
      rw [hE b b' (by simpa using hb) (by rw [hv.1]; decide)]
      exact ⟨hv, rfl⟩
    · cases h
  · rename_i fn a c fn' a' c'
    split at h
    · rename_i hf
      have := of_decide_eq_true hf; subst this
      simp only [Option.bind_eq_some_iff, Option.map_eq_some_iff] at h
      obtain ⟨p, h1, q, h2, rfl⟩ := h
      rw [allP_append] at hp
      refine ⟨?_, rfl⟩
      simp only [VR] at hv ⊢
      obtain ⟨f', c', e1, k1, k2⟩ := hv
      exact ⟨f', c', e1, eqPs_ok hE _ _ _ h1 hp.1 _ k1, eqPs_ok hE _ _ _ h2 hp.2 _ k2⟩
    · cases h
  · rename_i T u T' u'
    split at h
    · rename_i hT
      have := of_decide_eq_true hT; subst this
      refine ⟨?_, rfl⟩
      simp only [VR] at hv ⊢
      obtain ⟨x, e1, k1⟩ := hv
      refine ⟨x, e1, ?_⟩
      split at h
      · rename_i hid
        cases h
        have e : u' = u := hp
        subst e
        have := (VR.iff (E := E) (E' := E') (f := fun i => i) u' x (fun b hb => by rw [hid] at hb; cases hb)).2 k1
        rwa [Ref.ren_id] at this
      · exact eqP_ok hE h hp k1
    · cases h
  · cases h

include hE hvb in
omit [GTab] in
theorem eqT_ok : ∀ (t : Ty) (x y : t.I) (ps : List Prop), eqT π vb t x y = some ps → allP ps → ∀ cs, CR E t y cs → CR E' t x cs
  | .ref k, x, y, ps, h, hp, cs, hc => by
    obtain ⟨v, e, h1, h2⟩ := hc
    obtain ⟨k1, k2⟩ := eqR_ok hE hvb h hp h1
    exact ⟨v, e, k1, k2.trans h2⟩
  | .last a, x, y, ps, h, hp, cs, hc => eqT_ok a x y ps h hp cs hc
  | .cons a r, x, y, ps, h, hp, cs, hc => by
    simp only [eqT, Option.bind_eq_some_iff, Option.map_eq_some_iff] at h
    obtain ⟨p, h1, q, h2, rfl⟩ := h
    rw [allP_append] at hp
    obtain ⟨c1, c2, e, k1, k2⟩ := hc
    exact ⟨c1, c2, e, eqT_ok a x.1 y.1 p h1 hp.1 c1 k1, eqT_ok r x.2 y.2 q h2 hp.2 c2 k2⟩
  | .unit, x, y, ps, h, hp, cs, hc => hc
  | .arr n t, x, y, ps, h, hp, cs, hc => by
    simp only [eqT] at h
    split at h
    · rename_i hn
      cases h
      have e : y = x := hp
      subst e
      exact CR.noRef (.arr n t) y cs hn hc
    · cases h
  | .int k, x, y, ps, h, hp, cs, hc => by
    cases h
    have e : y = x := hp
    subst e; exact hc
  | .bool, x, y, ps, h, hp, cs, hc => by
    cases h
    have e : y = x := hp
    subst e; exact hc
  | .str, x, y, ps, h, hp, cs, hc => by
    cases h
    have e : y = x := hp
    subst e; exact hc

include hE hvb in
omit [GTab] in
theorem eqA_ok {a b : AV} {ps : List Prop} (h : eqA π vb a b = some ps) (hp : allP ps) : ∀ v, AR E b v → AR E' a v := by
  unfold eqA at h
  split at h
  · rename_i ht
    obtain ⟨t, x⟩ := a
    obtain ⟨u, y⟩ := b
    dsimp only at ht
    subst ht
    intro v hv
    unfold AR at hv ⊢
    dsimp only at hv ⊢
    split
    · rename_i hh
      simp only [hh] at hv
      obtain ⟨cs, e, hc⟩ := hv
      exact ⟨cs, e, eqT_ok hE hvb u x y ps h hp _ hc⟩
    · rename_i hh
      simp only [hh] at hv
      exact eqT_ok hE hvb u x y ps h hp _ hv
  · cases h

include hE hvb in
omit [GTab] in
theorem eqAs_ok : ∀ (l m : List AV) (ps : List Prop), eqAs π vb l m = some ps → allP ps → ∀ vs, ARs E m vs → ARs E' l vs
  | [], [], ps, h, hp, vs, hv => hv
  | a :: l, b :: m, ps, h, hp, vs, hv => by
    simp only [eqAs, Option.bind_eq_some_iff, Option.map_eq_some_iff] at h
    obtain ⟨p, h1, q, h2, rfl⟩ := h
    rw [allP_append] at hp
    obtain ⟨v, vs', e, k1, k2⟩ := hv
    exact ⟨v, vs', e, eqA_ok hE hvb h1 hp.1 v k1, eqAs_ok l m q h2 hp.2 vs' k2⟩
  | [], b :: m, ps, h, hp, vs, hv => by cases h
  | a :: l, [], ps, h, hp, vs, hv => by cases h

include hE hvb in
omit [GTab] in
theorem eqS_ok {s s' : SV} {ps : List Prop} (h : eqS π vb s s' = some ps) (hp : allP ps) : ∀ v, SR E s' v → SR E' s v := by
  intro v hv
  unfold eqS at h
  split at h
  · trivial
  · exact eqA_ok hE hvb h hp v hv
  · obtain ⟨vs, e, hv⟩ := hv
    exact ⟨vs, e, eqAs_ok hE hvb _ _ _ h hp _ hv⟩
  · cases h

include hE hvb in
omit [GTab] in
theorem eqSs_ok : ∀ (l m : List SV) (ps : List Prop), eqSs π vb l m = some ps → allP ps → l.length = m.length ∧ ∀ i v, SR E (m.getD i .any) v → SR E' (l.getD i .any) v
  | [], [], ps, h, hp => ⟨rfl, fun i v _ => trivial⟩
  | a :: l, b :: m, ps, h, hp => by
    simp only [eqSs, Option.bind_eq_some_iff, Option.map_eq_some_iff] at h
    obtain ⟨p, h1, q, h2, rfl⟩ := h
    rw [allP_append] at hp
    obtain ⟨k1, k2⟩ := eqSs_ok l m q h2 hp.2
    refine ⟨by simp [k1], fun i v hv => ?_⟩
    cases i with
    | zero => exact eqS_ok hE hvb h1 hp.1 v hv
    | succ i => simpa using k2 i v (by simpa using hv)
  | [], b :: m, ps, h, hp => by cases h
  | a :: l, [], ps, h, hp => by cases h

include hE hvb in
omit [GTab] in
theorem eqT_AR {u : Ty} {x y : u.I} {ps : List Prop} (h : eqT π vb u x y = some ps) (hp : allP ps) {v : Value} (hv : AR E ⟨u, y⟩ v) : AR E' ⟨u, x⟩ v := by
  unfold AR at hv ⊢
  dsimp only at hv ⊢
  split
  · rename_i hh
    simp only [hh] at hv
    obtain ⟨cs, e, hc⟩ := hv
    exact ⟨cs, e, eqT_ok hE hvb u x y ps h hp _ hc⟩
  · rename_i hh
    simp only [hh] at hv
    exact eqT_ok hE hvb u x y ps h hp _ hv

include hE hvb in
omit [GTab] in
theorem eqT_MapE {t : Ty} {x y : t.I} {ps : List Prop} (h : eqT π vb t x y = some ps) (hp : allP ps) {e : MapEntry} (hv : MapE E t y e) : MapE E' t x e := by
  cases t with
  | cons k r =>
    cases r with
    | last v =>
      simp only [eqT, Option.bind_eq_some_iff, Option.map_eq_some_iff] at h
      obtain ⟨p, h1, q, h2, rfl⟩ := h
      rw [allP_append] at hp
      obtain ⟨k1, k2, k3⟩ := hv
      exact ⟨k1, eqT_AR hE hvb h1 hp.1 k2, eqT_AR hE hvb h2 hp.2 k3⟩
    | _ => exact hv.elim
  | _ => exact hv.elim

include hE hvb in
omit [GTab] in
theorem eqXs_ok {t : Ty} : ∀ (l m : List t.I) (ps : List Prop), eqXs π vb t l m = some ps → allP ps → (m = [] → l = []) ∧ ∀ es, LF (MapE E t) m es → LF (MapE E' t) l es
  | [], [], ps, h, hp => ⟨id, fun es he => he⟩
  | x :: l, y :: m, ps, h, hp => by
    simp only [eqXs, Option.bind_eq_some_iff, Option.map_eq_some_iff] at h
    obtain ⟨p, h1, q, h2, rfl⟩ := h
    rw [allP_append] at hp
    refine ⟨(fun h => by cases h), fun es he => ?_⟩
    obtain ⟨e, es', rfl, k1, k2⟩ := he
    exact ⟨e, es', rfl, eqT_MapE hE hvb h1 hp.1 k1, (eqXs_ok l m q h2 hp.2).2 _ k2⟩
  | [], y :: m, ps, h, hp => by cases h
  | x :: l, [], ps, h, hp => by cases h

include hE hvb in
omit [GTab] in
theorem eqM_ok {b c : Blk} {ps : List Prop} (h : eqM π vb b c = some ps) (hp : allP ps) : (c.xs = [] → b.xs = []) ∧ ∀ es, LF (MapE E c.t) c.xs es → LF (MapE E' b.t) b.xs es := by
  simp only [eqM, Option.bind_eq_some_iff] at h
  obtain ⟨ys, h1, h⟩ := h
  have := AV.as_eq h1
  simp only [AV.mk.injEq, Ty.arr.injEq, true_and] at this
  obtain ⟨ht, hx⟩ := this
  obtain ⟨cro, cone, ct, cxs⟩ := c
  obtain ⟨bro, bone, bt, bxs⟩ := b
  dsimp only at ht hx h ys h1 ⊢
  subst ht
  have hx : cxs = ys := eq_of_heq hx
  subst hx
  split at h
  · rename_i hn
    cases h
    have e : cxs = bxs := hp
    subst e
    refine ⟨id, fun es he => ?_⟩
    have := LF.imp (g := id) (fun x c hx => MapE.noRef (E' := E') ct x c hn hx) _ _ he
    rwa [List.map_id] at this
  · exact eqXs_ok hE hvb _ _ _ h hp

include hE hvb in
omit [GTab] in
theorem eqC_ok {b c : Blk} {ps : List Prop} (h : eqC π vb b c = some ps) (hp : allP ps) : b.ro = c.ro ∧ b.one = c.one ∧ (c.xs = [] → b.xs = []) ∧ (∀ cells, LR (CR E c.t) c.xs cells → LR (CR E' b.t) b.xs cells) := by
  unfold eqC at h
  rw [Option.map_eq_some_iff] at h
  obtain ⟨ps0, h, rfl⟩ := h
  rw [allP_append] at hp
  obtain ⟨hp, hro0⟩ := hp
  have main : b.ro = c.ro → (match b.one, c.one with
    | true, true => match b.xs, c.xs with
      | [x], [y] => eqA π vb ⟨b.t, x⟩ ⟨c.t, y⟩
      | _, _ => none
    | false, false => match b.t.noRef with
      | true => ((AV.mk (.arr 0 c.t) c.xs).as (.arr 0 b.t)).map fun ys => [ys = b.xs]
      | false => none
    | _, _ => none) = some ps0 → b.ro = c.ro ∧ b.one = c.one ∧ (c.xs = [] → b.xs = []) ∧ (∀ cells, LR (CR E c.t) c.xs cells → LR (CR E' b.t) b.xs cells) := by
    intro hro h
    have hcells : (∀ cells, LR (CR E c.t) c.xs cells → LR (CR E' b.t) b.xs cells) ∧ (c.xs = [] → b.xs = []) := by
      split at h
      · split at h
        · rename_i x y hx hy
          rw [hx, hy]
          refine ⟨fun cells hl => ?_, fun h => by cases h⟩
          obtain ⟨c1, c2, e1, k1, k2⟩ := hl
          refine ⟨c1, c2, e1, ?_, k2⟩
          unfold eqA at h
          split at h
          · rename_i ht
            dsimp only at ht
            have : ∀ (u : Ty) (z : u.I) (ht : u = b.t) (qs : List Prop), eqT π vb b.t x (ht ▸ z) = some qs → allP qs → CR E u z c1 → CR E' b.t x c1 := by
              intro u z ht qs h hq hc
              subst ht
              exact eqT_ok hE hvb _ _ _ qs h hq _ hc
            exact this c.t y ht ps0 h hp k1
          · cases h
        · cases h
      · split at h
        · rename_i hn
          simp only [Option.map_eq_some_iff] at h
          obtain ⟨ys, h1, rfl⟩ := h
          have e : ys = b.xs := hp
          subst e
          have := AV.as_eq h1
          simp only [AV.mk.injEq, Ty.arr.injEq, true_and] at this
          obtain ⟨ht, hx⟩ := this
          obtain ⟨cro, cone, ct, cxs⟩ := c
          obtain ⟨bro, bone, bt, bxs⟩ := b
          dsimp only at ht hx hn ⊢
          subst ht
          have hx : cxs = bxs := eq_of_heq hx
          subst hx
          exact ⟨fun cells hl => LR.imp' (fun x c hc => CR.noRef _ x c hn hc) _ _ hl, fun h => h⟩
        · cases h
      · cases h
    refine ⟨hro, ?_, hcells.2, hcells.1⟩
    split at h
    · rename_i h1 h2
      rw [h1, h2]
    · rename_i h1 h2
      rw [h1, h2]
    · cases h
  exact main hro0 h

include hE hvb in
omit [GTab] in
theorem eqB_ok {b c : Blk} {ps : List Prop} (h : eqB π vb b c = some ps) (hp : allP ps) {e : Loc} {w : World} (hb : BR e E c w) : BR e E' b w := by
  unfold eqB at h
  split at h
  · rename_i h1 h2
    obtain ⟨k1, k2⟩ := eqM_ok hE hvb h hp
    unfold BR at hb ⊢
    rw [h1]
    rw [h2] at hb
    split at hb
    · exact hb
    · exact k1 hb
    · obtain ⟨r1, es, cl, r2, r3⟩ := hb
      exact ⟨r1, es, cl, r2, k2 _ r3⟩
  · cases h
  · rename_i h1
    obtain ⟨k1, k2, k3, k4⟩ := eqC_ok hE hvb h hp
    have h2 : c.isMap = false := by
      unfold Blk.isMap at h1 ⊢
      rw [← k1, ← k2]; exact h1
    unfold BR at hb ⊢
    rw [h1]
    rw [h2] at hb
    split at hb
    · exact hb
    · exact k3 hb
    · obtain ⟨cs, T, fr, r1, r2, ⟨front, cells, rest, r3, r4, r5⟩, r6⟩ := hb
      exact ⟨cs, T, fr, r1, r2, ⟨front, cells, rest, r3, r4, k4 _ r5⟩, by rw [k1]; exact r6⟩

omit [GTab] in
theorem eqH_ok {hp : List (Option Blk)} : ∀ (l : List (Option Blk)) (i : Nat) (ps : List Prop), eqH π vb hp l i = some ps → allP ps → ∀ k b, l[k]? = some (some b) →
    (∃ c ps, hp[π (i + k)]? = some (some c) ∧ eqB π vb b c = some ps ∧ allP ps) ∨ (hp[π (i + k)]? = none ∧ b.ro = false ∧ b.xs = [])
  | [], i, ps, h, hq, k, b, hk => by simp at hk
  | none :: l, i, ps, h, hq, k, b, hk => by
    cases k with
    | zero => simp at hk
    | succ k =>
      have := eqH_ok l (i + 1) ps h hq k b (by simpa using hk)
      rw [show i + (k + 1) = i + 1 + k by omega]; exact this
  | some b0 :: l, i, ps, h, hq, k, b, hk => by
    simp only [eqH] at h
    split at h
    · rename_i c hc
      simp only [Option.bind_eq_some_iff, Option.map_eq_some_iff] at h
      obtain ⟨p, h1, q, h2, rfl⟩ := h
      rw [allP_append] at hq
      cases k with
      | zero => simp at hk; subst hk; exact .inl ⟨c, p, hc, h1, hq.1⟩
      | succ k =>
        have := eqH_ok l (i + 1) q h2 hq.2 k b (by simpa using hk)
        rw [show i + (k + 1) = i + 1 + k by omega]; exact this
    · cases h
    · rename_i hc
      split at h
      · rename_i hro hnr
        simp only [Option.map_eq_some_iff] at h
        obtain ⟨q, h2, rfl⟩ := h
        rw [allP_cons] at hq
        simp only [Bool.or_eq_false_iff] at hro
        cases k with
        | zero => simp at hk; subst hk; exact .inr ⟨hc, hro.1, hq.1⟩
        | succ k =>
          have := eqH_ok l (i + 1) q h2 hq.2 k b (by simpa using hk)
          rw [show i + (k + 1) = i + 1 + k by omega]; exact this
      · cases h

end

omit [GTab] in
theorem distinct_inj {f : Nat → Nat} : ∀ {l : List Nat}, distinct (l.map f) = true → ∀ i ∈ l, ∀ j ∈ l, f i = f j → i = j
  | [], _, i, hi, _, _, _ => by cases hi
  | x :: l, h, i, hi, j, hj, e => by
    simp only [List.map_cons, distinct, Bool.and_eq_true, Bool.not_eq_true'] at h
    have hx : ∀ y ∈ l, f x ≠ f y := fun y hy e => by
      have : (l.map f).elem (f x) = true := by rw [List.elem_eq_mem]; simpa using ⟨y, hy, e.symm⟩
      rw [h.1] at this; cases this
    rcases List.mem_cons.1 hi with e1 | hi1
    · rcases List.mem_cons.1 hj with e2 | hj1
      · rw [e1, e2]
      · rw [e1] at e; exact absurd e (hx j hj1)
    · rcases List.mem_cons.1 hj with e2 | hj1
      · rw [e2] at e; exact absurd e.symm (hx i hi1)
      · exact distinct_inj h.2 i hi1 j hj1 e

omit [GTab] in
theorem someIdx_mem : ∀ {l : List (Option Blk)} {i k : Nat} {b : Blk}, l[k]? = some (some b) → i + k ∈ someIdx l i
  | none :: l, i, 0, b, h => by simp at h
  | some c :: l, i, 0, b, h => by simp [someIdx]
  | none :: l, i, k + 1, b, h => by
    have := someIdx_mem (i := i + 1) (k := k) (l := l) (b := b) (by simpa using h)
    rw [show i + (k + 1) = i + 1 + k by omega]; simpa [someIdx] using this
  | some c :: l, i, k + 1, b, h => by
    have := someIdx_mem (i := i + 1) (k := k) (l := l) (b := b) (by simpa using h)
    rw [show i + (k + 1) = i + 1 + k by omega]; simp only [someIdx]; exact List.mem_cons_of_mem _ this
  | [], i, k, b, h => by simp at h

omit [GTab] in
theorem upto_mem : ∀ {n i : Nat}, i < n → i ∈ upto n
  | n + 1, i, h => by
    rcases Nat.lt_or_ge i n with h' | h'
    · exact List.mem_cons_of_mem _ (upto_mem h')
    · have : i = n := by omega
      subst this; exact List.mem_cons_self ..

omit [GTab] in
theorem aliasOk_ok {hp : List (Option Blk)} {k : Nat} : ∀ {l : List (Nat × Nat)}, aliasOk hp k l = true → ∀ x ∈ l, k ≤ x.1 → x.2 < k → ∃ c, hp[x.2]? = some (some c) ∧ c.ro = false
  | [], _, x, hx, _, _ => by cases hx
  | (i, j) :: l, h, x, hx, h1, h2 => by
    unfold aliasOk at h
    split at h
    · rename_i hb
      have := Nat.le_of_ble_eq_true hb
      rcases List.mem_cons.1 hx with rfl | hx
      · simp only at h1; omega
      · exact aliasOk_ok h x hx h1 h2
    · split at h
      · rename_i hb
        rcases List.mem_cons.1 hx with rfl | hx
        · simp only at h2
          rw [show Nat.blt j k = true from Nat.ble_eq_true_of_le h2] at hb; cases hb
        · exact aliasOk_ok h x hx h1 h2
      · split at h
        · rename_i c hc
          split at h
          · rename_i hro
            rcases List.mem_cons.1 hx with rfl | hx
            · exact ⟨c, hc, hro⟩
            · exact aliasOk_ok h x hx h1 h2
          · cases h
        · cases h

theorem leP_ok {k : Nat} {S' S : St} (h : leP k S' S) {E0 E : Env} {a : Act} {w0 w : World} (R : Rel S E a w) (F : Fr E0 w0 E w) (hk : ∀ i, k ≤ i → (E0 i).st = .dead) : ∃ E', Rel S' E' a w ∧ Fr E0 w0 E' w := by
  unfold leP at h
  split at h
  · rename_i ps hps
    unfold leS at hps
    dsimp only at hps
    split at hps
    · rename_i hd hal hk1 hk2
      have hk1 : k ≤ S'.hp.length := Nat.le_of_ble_eq_true hk1
      have hk2 : k ≤ S.hp.length := Nat.le_of_ble_eq_true hk2
      generalize hms : matchAll k S' S = ms at hd hal hps
      generalize hπ : renF k S.hp.length S'.hp.length ms = π at hd hal hps
      have π1 : ∀ i, i < k → π i = i := fun i hi => by
        rw [← hπ]; unfold renF; rw [show Nat.blt i k = true from Nat.ble_eq_true_of_le hi]
      have π2 : ∀ i, S'.hp.length ≤ i → π i = S.hp.length + i := fun i hi => by
        rw [← hπ]; unfold renF
        have h1 : Nat.blt i k = false := by cases hb : Nat.blt i k with | false => rfl | true => have := Nat.le_of_ble_eq_true hb; omega
        have h2 : Nat.blt i S'.hp.length = false := by cases hb : Nat.blt i S'.hp.length with | false => rfl | true => have := Nat.le_of_ble_eq_true hb; omega
        rw [h1, h2]
      simp only [Option.bind_eq_some_iff, Option.map_eq_some_iff] at hps
      obtain ⟨p, hp1, q, hq1, rfl⟩ := hps
      rw [allP_append] at h
      let E' : Env := fun i => if i < S'.hp.length then (if π i < S.hp.length then E (π i) else ⟨0, 0, 0, .virt, true⟩) else ⟨0, 0, 0, .dead, true⟩
      have hE : ∀ b b', π b = b' → (E b').st ≠ .dead → E' b = E b' := by
        intro b b' hb hl
        have h1 : b' < S.hp.length := by
          rcases Nat.lt_or_ge b' S.hp.length with h | h
          · exact h
          · exact absurd (R.dead b' h) hl
        have h2 : b < S'.hp.length := by
          rcases Nat.lt_or_ge b S'.hp.length with h | h
          · exact h
          · rw [π2 b h] at hb; omega
        simp only [E', h2, if_true, hb, h1]
      have hvb : ∀ b, virtF π S.hp.length S'.hp.length b = true → (E' b).st = .virt := by
        intro b hb
        simp only [virtF, Bool.and_eq_true] at hb
        have h1 : b < S'.hp.length := Nat.le_of_ble_eq_true hb.1
        have h2 : S.hp.length ≤ π b := Nat.le_of_ble_eq_true hb.2
        simp only [E', h1, if_true]
        rw [if_neg (by omega)]
      obtain ⟨l1, l2⟩ := eqSs_ok hE hvb _ _ _ hp1 h.1
      have hH := eqH_ok _ _ _ hq1 h.2
      have get : ∀ i b, hpF S'.hp i = some b → i < S'.hp.length ∧ S'.hp[i]? = some (some b) := by
        intro i b hb
        simp only [hpF] at hb
        cases hi : S'.hp[i]? with
        | none => rw [hi] at hb; cases hb
        | some c =>
          rw [hi] at hb
          simp only [Option.bind_some, id] at hb
          rw [hb]
          exact ⟨(List.getElem?_eq_some_iff.1 hi).1, rfl⟩
      refine ⟨E', ⟨fun i => l2 i _ (R.tm i), l1.trans R.sz, R.df, ⟨R.hp.gl.sub fun i hr hrw => ?_, fun i b hb => ?_, fun i j b c hb hc hri hrj hrw hij => ?_⟩, fun i hi => ?_⟩, ⟨fun i hi => ?_, fun i hi hr => ?_, F.size, F.keep, F.os, F.tape, F.output⟩⟩
      · by_cases c1 : i < S'.hp.length
        · by_cases c2 : π i < S.hp.length
          · have e : E' i = E (π i) := by simp [E', c1, c2]
            rw [e] at hr hrw ⊢; exact ⟨_, hr, hrw, rfl⟩
          · have e : (E' i).st = .virt := by simp [E', c1, c2]
            rw [e] at hr; cases hr
        · have e : (E' i).st = .dead := by simp [E', c1]
          rw [e] at hr; cases hr
      · obtain ⟨hi, hb⟩ := get i b hb
        rcases hH i b hb with ⟨c, qs, h1, h2, h3⟩ | ⟨h1, h2, h3⟩
        · rw [Nat.zero_add] at h1
          have hlt : π i < S.hp.length := (List.getElem?_eq_some_iff.1 h1).1
          have he : E' i = E (π i) := by simp only [E', hi, hlt, if_true]
          rw [he]
          exact eqB_ok hE hvb h2 h3 (R.hp.blk (π i) c (by simp only [hpF, h1]; rfl))
        · rw [Nat.zero_add] at h1
          have hge : S.hp.length ≤ π i := List.getElem?_eq_none_iff.1 h1
          have he : E' i = ⟨0, 0, 0, .virt, true⟩ := by simp only [E', hi, if_true]; rw [if_neg (by omega)]
          rw [he]
          exact h3
      · obtain ⟨hi, hb⟩ := get i b hb
        obtain ⟨hj, hc⟩ := get j c hc
        have aux : ∀ i b, i < S'.hp.length → S'.hp[i]? = some (some b) → (E' i).st = .real → E' i = E (π i) ∧ ∃ c, hpF S.hp (π i) = some c := by
          intro i b hi hb hr
          rcases hH i b hb with ⟨c, qs, h1, h2, h3⟩ | ⟨h1, h2, h3⟩
          · rw [Nat.zero_add] at h1
            have hlt : π i < S.hp.length := (List.getElem?_eq_some_iff.1 h1).1
            exact ⟨by simp only [E', hi, hlt, if_true], c, by simp only [hpF, h1]; rfl⟩
          · rw [Nat.zero_add] at h1
            have hge : S.hp.length ≤ π i := List.getElem?_eq_none_iff.1 h1
            have he : E' i = ⟨0, 0, 0, .virt, true⟩ := by simp only [E', hi, if_true]; rw [if_neg (by omega)]
            rw [he] at hr; cases hr
        obtain ⟨e1, c1, hc1⟩ := aux i b hi hb hri
        obtain ⟨e2, c2, hc2⟩ := aux j c hj hc hrj
        rw [e1] at hri hij hrw
        rw [e2] at hrj hij
        have := R.hp.inj _ _ _ _ hc1 hc2 hri hrj hrw hij
        have mi := someIdx_mem (i := 0) hb
        have mj := someIdx_mem (i := 0) hc
        rw [Nat.zero_add] at mi mj
        exact distinct_inj hd _ mi _ mj this
      · simp only [E']
        rw [if_neg (by omega)]
      · have hik : i < k := by
          rcases Nat.lt_or_ge i k with h | h
          · exact h
          · exact absurd (hk i h) hi
        have := F.env i hi
        rw [hE i i (π1 i hik) (by rw [this]; exact hi), this]
      · have hlt : i < S'.hp.length ∧ π i < S.hp.length ∧ E' i = E (π i) := by
          by_cases h1 : i < S'.hp.length
          · by_cases h2 : π i < S.hp.length
            · exact ⟨h1, h2, by simp only [E', h1, h2, if_true]⟩
            · have : E' i = ⟨0, 0, 0, .virt, true⟩ := by simp only [E', h1, h2, if_true, if_false]
              rw [this] at hr; cases hr
          · have : E' i = ⟨0, 0, 0, .dead, true⟩ := by simp only [E', h1, if_false]
            rw [this] at hr; cases hr
        rw [hlt.2.2] at hr ⊢
        by_cases hd0 : (E0 (π i)).st = .dead
        · exact F.new _ hd0 hr
        · have hk0 : π i < k := by
            rcases Nat.lt_or_ge (π i) k with h | h
            · exact h
            · exact absurd (hk _ h) hd0
          have hki : k ≤ i := by
            rcases Nat.lt_or_ge i k with h | h
            · rw [π1 i h] at hd0; exact absurd hi hd0
            · exact h
          obtain ⟨c, hc, hro⟩ := aliasOk_ok hal (i, π i) (List.mem_map.2 ⟨i, upto_mem hlt.1, rfl⟩) hki hk0
          have hbr := R.hp.blk (π i) c (by simp only [hpF, hc]; rfl)
          have he := F.env _ hd0
          have hrw : (E (π i)).rw = true := by
            obtain ⟨_, _, _, _, _, _, h6⟩ := hbr.cells hr (Blk.notMap hro)
            exact (h6 hro).1
          exact .inr ⟨π i, by rw [← he]; exact hr, by rw [← he]; exact hrw, by rw [he]⟩
    · cases hps
  · exact h.elim

end Go.SL

/- S-logic, part 24: code. -/
namespace Go.SL
open Go
variable [GTab]

/-! ### What holds of data in a machine -/

omit [GTab] in
theorem CR.wf {E : Env} : ∀ (t : Ty) (x : t.I) (cs : List Value), CR E t x cs → allP (t.wf x)
  | .int k, x, cs, h => by
    simp only [Ty.wf, allP]; exact h.2
  | .bool, x, cs, h => trivial
  | .str, x, cs, h => h.2
  | .ref k, x, cs, h => trivial
  | .unit, x, cs, h => trivial
  | .arr n t, l, cs, h => by
    show List.length l = n ∧ ∀ y ∈ (l : List t.I), allP (t.wf y)
    exact ⟨h.1, go t l cs h.2⟩
  | .last a, x, cs, h => CR.wf a x cs h
  | .cons a r, x, cs, h => by
    obtain ⟨c1, c2, e, h1, h2⟩ := h
    show allP (a.wf x.1 ++ r.wf x.2)
    rw [allP_append]
    exact ⟨CR.wf a x.1 c1 h1, CR.wf r x.2 c2 h2⟩
where go {E : Env} (t : Ty) : ∀ (l : List t.I) (cs : List Value), LR (CR E t) l cs → ∀ y ∈ l, allP (t.wf y)
  | [], cs, h, y, hy => by cases hy
  | x :: l, cs, h, y, hy => by
    obtain ⟨c1, c2, e, h1, h2⟩ := h
    rcases List.mem_cons.1 hy with rfl | hy
    · exact CR.wf t _ c1 h1
    · exact go t l c2 h2 y hy

omit [GTab] in
theorem AR.wf {E : Env} {a : AV} {v : Value} (h : AR E a v) : allP (a.t.wf a.x) := CR.wf _ _ _ h.cells

omit [GTab] in
theorem SR.wf {E : Env} {s : SV} {v : Value} (h : SR E s v) : allP s.wf := by
  cases s with
  | v t x => exact AR.wf (a := ⟨t, x⟩) h
  | _ => trivial

omit [GTab] in
theorem MapE.wf {E : Env} {t : Ty} {x : t.I} {e : MapEntry} (h : MapE E t x e) : allP (t.wf x) := by
  cases t with
  | cons k r =>
    cases r with
    | last v =>
      obtain ⟨-, h1, h2⟩ := h
      show allP (k.wf x.1 ++ v.wf x.2)
      rw [allP_append]
      exact ⟨AR.wf h1, AR.wf h2⟩
    | _ => exact h.elim
  | _ => exact h.elim

omit [GTab] in
theorem LF.wf {E : Env} {t : Ty} : ∀ (l : List t.I) (es : List MapEntry), LF (MapE E t) l es → ∀ y ∈ l, allP (t.wf y)
  | [], _, _, y, hy => by cases hy
  | x :: l, es, h, y, hy => by
    obtain ⟨e, es', -, h1, h2⟩ := h
    rcases List.mem_cons.1 hy with rfl | hy
    · exact h1.wf
    · exact LF.wf l es' h2 y hy

omit [GTab] in
theorem BR.wf {E : Env} {e : Loc} {b : Blk} {w : World} (h : BR e E b w) : allP b.wf := by
  show ∀ y ∈ b.xs, allP (b.t.wf y)
  unfold BR at h
  split at h
  · exact h.elim
  · rw [h]; intro y hy; cases hy
  · split at h
    · obtain ⟨-, es, cl, -, h1⟩ := h
      exact LF.wf _ _ h1
    · obtain ⟨cs, T, fr, h1, h2, ⟨front, cells, rest, h3, h4, h5⟩, h6⟩ := h
      exact CR.wf.go _ _ _ h5

omit [GTab] in
theorem allP_flat {α : Type} {f : α → List Prop} : ∀ {l : List α}, (∀ x ∈ l, allP (f x)) → allP (l.flatMap f)
  | [], _ => trivial
  | x :: l, h => by
    rw [List.flatMap_cons, allP_append]
    exact ⟨h x (by simp), allP_flat fun y hy => h y (by simp [hy])⟩

theorem Ann.wf_ok {A : Ann} {S : St} {x : A.X} {E : Env} {a : Act} {w : World} (R : Rel S E a w) : allP (A.wf S x) := by
  unfold Ann.wf
  rw [allP_append]
  refine ⟨allP_flat fun s _ => (R.tm s.1).wf, allP_flat fun b _ => ?_⟩
  split
  · rename_i c hc; exact (R.hp.blk _ _ hc).wf
  · trivial

omit [GTab] in
theorem andP_ok {ps : List Prop} {q : Prop} (h : andP ps q) : allP ps ∧ q := by
  cases ps with
  | nil => exact ⟨trivial, h⟩
  | cons p ps => exact h

omit [GTab] in
theorem impP_ok {ps : List Prop} {q : Prop} (h : impP ps q) (hp : allP ps) : q := by
  cases ps with
  | nil => exact h
  | cons p ps => exact h hp

/-! ### Rules -/

def Post (E : Env) (w : World) (Q : Ex → St → Prop) : Exit → Act → World → Prop := fun e a' w' => ∃ x S' E', e = exOf x ∧ Q x S' ∧ Rel S' E' a' w' ∧ Fr E w E' w'

theorem VX.from {P : Program} {c : Code} {S : St} {Q : Ex → St → Prop} (h : VX P c S Q) {E0 E : Env} {w0 w : World} {a : Act} (R : Rel S E a w) (F : Fr E0 w0 E w) : c.wp P (Post E0 w0 Q) a w := by
  refine wp_mono (h E a w R) ?_
  rintro e a' w' ⟨x, S', E', rfl, hq, R', F'⟩
  exact ⟨x, S', E', rfl, hq, R', F.trans F'⟩

omit [GTab] in
theorem least {p : Nat → Prop} (h : ∃ n, p n) : ∃ n, p n ∧ ∀ m, p m → n ≤ m := by
  obtain ⟨n, hn⟩ := h
  induction n using Nat.strongRecOn with
  | _ n ih =>
    by_cases hm : ∃ m, m < n ∧ p m
    · obtain ⟨m, h1, h2⟩ := hm
      exact ih m h1 h2
    · exact ⟨n, hn, fun m hpm => Nat.le_of_not_lt fun h => hm ⟨m, h, hpm⟩⟩

omit [GTab] in
theorem wp_loop' {P : Program} {c : Code} {Q : Exit → Act → World → Prop} {a : Act} {w : World} (I : Nat → Act → World → Prop) (h₀ : ∃ n, I n a w)
    (round : ∀ n a w, I n a w → c.wp P (Exit.then (fun a' w' => ∃ m, m < n ∧ I m a' w') Q) a w) : (Code.loop c).wp P Q a w := by
  have hμ : ∃ μ : Act → World → Nat, ∀ a w, (∃ n, I n a w) → I (μ a w) a w ∧ ∀ m, I m a w → μ a w ≤ m := by
    refine ⟨fun a w => open Classical in if h : ∃ n, I n a w then Classical.choose (least h) else 0, fun a w h => ?_⟩
    simp only [dif_pos h]
    exact Classical.choose_spec (least h)
  obtain ⟨μ, hμ⟩ := hμ
  refine wp_loop (fun a w => ∃ n, I n a w) μ h₀ fun a w h => ?_
  refine wp_mono (round _ a w (hμ a w h).1) ?_
  intro e a' w' hq
  cases e with
  | normal =>
    obtain ⟨m, hm, hI⟩ := hq
    exact ⟨⟨m, hI⟩, Nat.lt_of_le_of_lt ((hμ a' w' ⟨m, hI⟩).2 m hI) hm⟩
  | _ => exact hq

section
variable {C : Ctx} (gd : Good C.P C.D) (hG : Sound C.P C.G) (hM : Meth C.P C.meth) (hmix : C.P.follows .mixedOrders = true)

omit [GTab] in
theorem altP_ok {α : Type} {x : α} {k : α → Prop} : ∀ {l : List α}, altP x k l → k x
  | [], h => False.elim h
  | a :: l, h => by
    by_cases e : x = a
    · rw [e]; exact h.1 e
    · exact altP_ok (h.2 e)

omit [GTab] in
theorem nameV_ok : ∀ {L : Nat → Option Blk} {b : Nat} {e : Eff} {k : Eff → Prop}, nameV L b e k → k e := by
  intro L b e k h
  unfold nameV at h
  split at h
  · exact altP_ok (k := fun y => k { pre := _, v := SV.v _ y, upd := _, foot := [_] }) h
  · exact h _ rfl
  · exact h _ rfl
  · exact h _ rfl
  · exact h _ rfl
  · rename_i y _ _
    revert h
    cases (show Bool from y) with
    | true => exact id
    | false => exact id
  · rename_i y _ _
    revert h
    cases (show Bool from y) with
    | true => exact id
    | false => exact id
  · exact h

theorem runV_ok {ops : Array Oper} {nm : Nat → Nat} {F : Prop} {K : List Prop → St → List Rec → Prop} : ∀ (l : List Oper) (i : Nat) (tm : List SV) (hp : List (Option Blk)) (ps : List Prop) (rs : List Rec),
    runV C.D C.G C.meth ops nm F K l i tm hp ps rs → (∃ ps' S' rs', runOps C.D C.G C.meth ops l i tm hp ps rs = some (ps', S', rs') ∧ K ps' S' rs') ∨ F
  | [], i, tm, hp, ps, rs, h => .inl ⟨_, _, _, rfl, h⟩
  | o :: l, i, tm, hp, ps, rs, h => by
    unfold runV at h
    unfold runOps
    cases he : opG C.D C.G C.meth ops tm (hpF hp) hp.length o with
    | none => rw [he] at h; exact .inr h
    | some e =>
      rw [he] at h
      simp only [Option.bind_some] at h ⊢
      cases hk : okH hp.length e.upd with
      | false => rw [hk] at h; exact .inr h
      | true =>
        rw [hk] at h
        exact runV_ok l (i + 1) _ _ _ _ (nameV_ok h)

include gd hG hM hmix in
theorem region_sound (A : Nat → St → Option Ann) (id : Nat) (ops : Array Oper) (draw : Bool) (S : St) (Q : Ex → St → Prop) (h : vc C A (.region id ops draw) S Q) : VX C.P (.region id ops draw) S Q := by
  simp only [vc] at h
  rcases runV_ok _ _ _ _ _ _ h with ⟨ps, S', rs, hr, h⟩ | h
  · cases draw with
    | false =>
      obtain ⟨hps, hq⟩ := andP_ok h
      intro E a w R
      refine wp_region ?_
      rw [List.range_eq_range', ← Array.length_toList]
      exact runOps_ok gd hG hM ops.toList 0 _ _ _ _ _ _ _ hr hps (fun k hk => by simp) E a w R fun a' w' E' R' F' => ⟨.normal, S', E', rfl, hq, R', F'⟩
    | true =>
      dsimp only at h
      split at h
      · rename_i hd
        obtain ⟨hps, hq⟩ := andP_ok h
        intro E a w R
        refine wp_region_any hmix ?_
        have R1 : Rel ⟨S.tm, S.hp⟩ E a { w with drawn := w.drawn + 1 } := ⟨R.tm, R.sz, R.df, ⟨R.hp.gl, fun i b hb => BR.world (fun _ => rfl) (R.hp.blk i b hb), R.hp.inj⟩, R.dead⟩
        have F1 : Fr E w E { w with drawn := w.drawn + 1 } := ⟨fun _ _ => rfl, (fun i h1 h2 => by rw [h1] at h2; cases h2), Nat.le_refl _, fun _ _ _ => rfl, rfl, rfl, rfl⟩
        exact draw_ok gd hG hM hr hps hd R1 fun a' w' E' R' F' => ⟨.normal, S', E', rfl, hq, R', F1.trans F'⟩
      · exact h
  · exact h

theorem block_sound {P : Program} {c : Code} {id : Nat} {S : St} {Q : Ex → St → Prop} (h : VX P c S fun e S' => match e with | .exit j => if j = id then Q .normal S' else Q (.exit j) S' | e => Q e S') : VX P (.block id c) S Q := by
  intro E a w R
  refine wp_block (wp_mono (h E a w R) ?_)
  rintro e a' w' ⟨x, S', E', rfl, hq, R', F'⟩
  cases x with
  | normal => exact ⟨.normal, S', E', rfl, hq, R', F'⟩
  | ret => exact ⟨.ret, S', E', rfl, hq, R', F'⟩
  | exit j =>
    simp only [exOf, Exit.inBlock]
    dsimp only at hq
    split
    · rename_i e; rw [if_pos e] at hq; exact ⟨.normal, S', E', rfl, hq, R', F'⟩
    · rename_i e; rw [if_neg e] at hq; exact ⟨.exit j, S', E', rfl, hq, R', F'⟩

theorem loop_sound {P : Program} {c : Code} {id : Nat} {S : St} {Q : Ex → St → Prop} (ann : Ann) (x : ann.X) (h1 : leP S.hp.length (ann.st S x) S) (h2 : ann.pre x)
    (h3 : ∀ x, ann.pre x → allP (ann.wf (ann.st S x) x) → VX P c (ann.st S x) fun e S' => match e with
          | .normal => ∃ y, leP S.hp.length (ann.st S y) S' ∧ ann.pre y ∧ ann.μ y < ann.μ x
          | .exit j => if j = id then Q .normal S' else Q (.exit j) S'
          | e => Q e S') : VX P (.block id (.loop c)) S Q := by
  refine block_sound fun E a w R => ?_
  have hk : ∀ i, S.hp.length ≤ i → (E i).st = .dead := R.dead
  refine wp_loop' (fun n a' w' => ∃ y E', ann.pre y ∧ ann.μ y = n ∧ Rel (ann.st S y) E' a' w' ∧ Fr E w E' w') ?_ ?_
  · obtain ⟨E', R', F'⟩ := leP_ok h1 R (Fr.refl E w) hk
    exact ⟨_, x, E', h2, rfl, R', F'⟩
  · rintro n a1 w1 ⟨y, E1, hy, rfl, R1, F1⟩
    refine wp_mono ((h3 y hy (Ann.wf_ok R1)).from R1 F1) ?_
    rintro e a2 w2 ⟨z, S2, E2, rfl, hq, R2, F2⟩
    cases z with
    | normal =>
      obtain ⟨y2, l1, l2, l3⟩ := hq
      obtain ⟨E3, R3, F3⟩ := leP_ok l1 R2 F2 hk
      exact ⟨_, l3, y2, E3, l2, rfl, R3, F3⟩
    | exit j => exact ⟨.exit j, S2, E2, rfl, hq, R2, F2⟩
    | ret => exact ⟨.ret, S2, E2, rfl, hq, R2, F2⟩

include gd hG hM hmix in
theorem vc_sound (A : Nat → St → Option Ann) : ∀ (c : Code) (S : St) (Q : Ex → St → Prop), vc C A c S Q → VX C.P c S Q
  | .skip, S, Q, h => fun E a w R => wp_skip ⟨.normal, S, E, rfl, h, R, Fr.refl E w⟩
  | .label l, S, Q, h => fun E a w R => wp_label ⟨.normal, S, E, rfl, h, R, Fr.refl E w⟩
  | .exit id, S, Q, h => fun E a w R => wp_exit ⟨.exit id, S, E, rfl, h, R, Fr.refl E w⟩
  | .ret, S, Q, h => fun E a w R => wp_ret ⟨.ret, S, E, rfl, h, R, Fr.refl E w⟩
  | .region id ops draw, S, Q, h => region_sound gd hG hM hmix A id ops draw S Q h
  | .seq x y, S, Q, h => fun E a w R => by
    refine wp_seq (wp_mono (vc_sound A x S _ h E a w R) ?_)
    rintro e a' w' ⟨z, S', E', rfl, hq, R', F'⟩
    cases z with
    | normal => exact (vc_sound A y S' Q hq).from R' F'
    | exit j => exact ⟨.exit j, S', E', rfl, hq, R', F'⟩
    | ret => exact ⟨.ret, S', E', rfl, hq, R', F'⟩
  | .cond c x y, S, Q, h => fun E a w R => by
    simp only [vc] at h
    split at h
    · rename_i b hb
      have hs := ev_ok R.tm S.hp c
      rw [show St.ev ⟨S.tm, S.hp⟩ c = S.ev c from rfl, hb] at hs
      refine wp_cond (AR.bool (E := E) hs) ?_
      cases b with
      | true => exact vc_sound A x S Q h E a w R
      | false => exact vc_sound A y S Q h E a w R
    · exact h.elim
  | .block id (.loop c), S, Q, h => by
    simp only [vc] at h
    split at h
    · rename_i ann _
      obtain ⟨x, ⟨h1, h2⟩, h3⟩ := h
      exact loop_sound ann x h1 h2 fun y hy hw => vc_sound A c _ _ (impP_ok (h3 y hy) hw)
    · exact h
  | .block id .skip, S, Q, h => block_sound (vc_sound A .skip S _ h)
  | .block id (.region i o d), S, Q, h => block_sound (vc_sound A (.region i o d) S _ h)
  | .block id (.seq x y), S, Q, h => block_sound (vc_sound A (.seq x y) S _ h)
  | .block id (.cond c x y), S, Q, h => block_sound (vc_sound A (.cond c x y) S _ h)
  | .block id (.block j c), S, Q, h => block_sound (vc_sound A (.block j c) S _ h)
  | .block id (.rangeFunc f p x y), S, Q, h => block_sound (vc_sound A (.rangeFunc f p x y) S _ h)
  | .block id (.exit j), S, Q, h => block_sound (vc_sound A (.exit j) S _ h)
  | .block id (.scope c), S, Q, h => block_sound (vc_sound A (.scope c) S _ h)
  | .block id (.label l), S, Q, h => block_sound (vc_sound A (.label l) S _ h)
  | .block id (.goto l), S, Q, h => block_sound (vc_sound A (.goto l) S _ h)
  | .block id .ret, S, Q, h => block_sound (vc_sound A .ret S _ h)
  | .block id (.refuse t), S, Q, h => block_sound (vc_sound A (.refuse t) S _ h)
  | .loop c, S, Q, h => h
  | .rangeFunc f p x y, S, Q, h => h
  | .scope c, S, Q, h => h
  | .goto l, S, Q, h => h
  | .refuse t, S, Q, h => h

end
end Go.SL

/- S-logic, part 25: functions. -/
namespace Go.SL
open Go
variable [GTab]

section
variable {P : Program} {D : TI} (gd : Good P D)

def resOne (tmps : Array Value) : ResultVar → Sem Value
  | .tmp t => pure (tmps.getD t undef)
  | .cell a t => do loadVar t (← asAddr (tmps.getD a undef))

include gd in
theorem resE_ok {S : St} {E : Env} {act : Act} {w : World} (R : Rel S E act w) {r : ResultVar} {ps : List Prop} {a : AV} (h : resE D S r = some (ps, a)) (hp : allP ps) : ∃ v, (resOne act.tmps r).run P w = .ok v w ∧ AR E a v := by
  cases r with
  | tmp t => exact ⟨_, rfl, SV.val_ok h hp (R.tm t)⟩
  | cell t T =>
    simp only [resE, Option.bind_eq_some_iff] at h
    obtain ⟨⟨q, r⟩, hr, e, he, h⟩ := h
    split at h
    · rename_i u x hx
      cases h
      rw [allP_append] at hp
      obtain ⟨ad, v, h1, h2, h3⟩ := loadE_ok gd R.hp he hp.2 (svR_ok hr hp.1 (R.tm t)).1
      rw [hx] at h3
      exact ⟨v, by simp [resOne, h1, asAddr, h2], h3⟩
    · cases h

include gd in
theorem resEs_ok {S : St} {E : Env} {act : Act} {w : World} (R : Rel S E act w) : ∀ {rs : List ResultVar} {ps : List Prop} {as : List AV}, resEs D S rs = some (ps, as) → allP ps → ∃ vs, (rs.mapM (resOne act.tmps)).run P w = .ok vs w ∧ ARs E as vs
  | [], ps, as, h, hp => by
    simp only [resEs, Option.some.injEq, Prod.mk.injEq] at h
    rw [← h.2]; exact ⟨[], by simp, rfl⟩
  | r :: rs, ps, as, h, hp => by
    simp only [resEs, Option.bind_eq_some_iff, Option.map_eq_some_iff] at h
    obtain ⟨⟨p, a⟩, h1, ⟨q, bs⟩, h2, h3⟩ := h
    cases h3
    rw [allP_append] at hp
    obtain ⟨v, k1, k2⟩ := resE_ok gd R h1 hp.1
    obtain ⟨vs, k3, k4⟩ := resEs_ok R h2 hp.2
    exact ⟨v :: vs, by simp [List.mapM_cons, k1, k3], v, vs, rfl, k2, k4⟩

omit [GTab] in
theorem results_eq (fn : Func) (tmps : Array Value) : results fn tmps = (do
    let vs ← fn.results.toList.mapM (resOne tmps)
    pure (if h : vs.toArray.size = 1 then vs.toArray[0] else .tuple vs.toArray)) := by
  unfold results
  have : (fun | .tmp t => pure (tmps.getD t undef) | .cell a t => do loadVar t (← asAddr (tmps.getD a undef)) : ResultVar → Sem Value) = resOne tmps := by
    funext r; cases r <;> rfl
  show ((fn.results.mapM (resOne tmps)) >>= _) = _
  rw [Array.mapM_eq_mapM_toList]
  simp

end

/-- A function's code does what is held of it. -/
theorem vcFun_ok {C : Ctx} (gd : Good C.P C.D) (hG : Sound C.P C.G) (hM : Meth C.P C.meth) (hmix : C.P.follows .mixedOrders = true) {f : FuncId} {fn : Func} (hf : C.P.funcs[f]? = some fn) (A : Nat → St → Option Ann) {args : List AV} {ins : List Blk} {out : COut}
    (h : allP ((args.flatMap fun a => a.t.wf a.x) ++ ins.flatMap Blk.wf) → vcFun C A fn args ins out) : VCall C.P f args ins out := by
  intro E vs w hvs hH hd
  have hlen := ARs.length hvs
  have hwf : allP ((args.flatMap fun a => a.t.wf a.x) ++ ins.flatMap Blk.wf) := by
    rw [allP_append]
    refine ⟨?_, allP_flat fun b hb => ?_⟩
    · clear h hlen
      induction args generalizing vs with
      | nil => trivial
      | cons a as ih =>
        obtain ⟨v, vs', rfl, h1, h2⟩ := hvs
        rw [List.flatMap_cons, allP_append]
        exact ⟨h1.wf, ih vs' h2⟩
    · obtain ⟨i, hi, rfl⟩ := List.mem_iff_getElem.1 hb
      exact (hH.blk i _ (by simp [hpF, hi])).wf
  have h := h hwf
  unfold vcFun at h
  split at h
  · rename_i c hc
    refine calls_of_wp hf hc ?_
    have R : Rel ⟨(args.map fun a => SV.v a.t a.x) ++ List.replicate (fn.ntmps - args.length) (.tup []), ins.map some⟩ E { tmps := vs.toArray ++ Array.replicate (fn.ntmps - vs.toArray.size) undef, defers := [] } w := by
      refine ⟨fun i => ?_, by simp [hlen], rfl, hH, fun i hi => hd i (by simpa using hi)⟩
      dsimp only
      have e1 : (vs.toArray ++ Array.replicate (fn.ntmps - vs.toArray.size) undef).getD i undef = (vs ++ List.replicate (fn.ntmps - args.length) undef).getD i undef := by
        rw [Array.getD_eq_getD_getElem?, List.getD_eq_getElem?_getD, ← Array.getElem?_toList]
        simp [hlen]
      rw [e1]
      clear e1 h hwf hlen
      have key : ∀ (args : List AV) (vs : List Value) (n i : Nat), ARs E args vs → SR E ((((args.map fun (a : AV) => SV.v a.t a.x) ++ List.replicate n (SV.tup []) : List SV)).getD i .any) ((vs ++ List.replicate n undef).getD i undef) := by
        intro args
        induction args with
        | nil =>
          intro vs n i h
          rw [show vs = [] from h]
          simp only [List.map_nil, List.nil_append, List.getD_eq_getElem?_getD, List.getElem?_replicate]
          split
          · exact ⟨#[], rfl, rfl⟩
          · trivial
        | cons a as ih =>
          intro vs n i h
          obtain ⟨v, vs', rfl, h1, h2⟩ := h
          cases i with
          | zero => exact h1
          | succ i => simpa using ih vs' n i h2
      exact key args vs _ i hvs
    refine wp_mono ((vc_sound gd hG hM hmix A c _ _ h).from R (Fr.refl E w)) ?_
    rintro e a' w' ⟨x, S', E', rfl, hq, R', F'⟩
    have main : retP C fn ins out S' → a'.defers = [] ∧ ∃ v, (results fn a'.tmps).run C.P w' = .ok v w' ∧ (fun e w' => ∃ v E', e = Ending.returned v ∧ SR E' out.v v ∧ HR E' (hpF (outHp ins out)) w' ∧
        (∀ i, (outHp ins out).length ≤ i → (E' i).st = .dead) ∧ Fr E w E' w') (.returned v) w' := by
      intro hr
      refine ⟨R'.df, ?_⟩
      unfold retP at hr
      have fin : ∀ (s : SV) (v : Value), SR E' s v → leP ins.length (outSt ins out) ⟨[s], S'.hp⟩ → ∃ v' E'', Ending.returned v = .returned v' ∧ SR E'' out.v v' ∧ HR E'' (hpF (outHp ins out)) w' ∧ (∀ i, (outHp ins out).length ≤ i → (E'' i).st = .dead) ∧ Fr E w E'' w' := by
        intro s v hs hl
        have R1 : Rel ⟨[s], S'.hp⟩ E' { tmps := #[v], defers := [] } w' := ⟨fun i => by
          cases i with
          | zero => exact hs
          | succ i => simp; trivial, rfl, rfl, R'.hp, R'.dead⟩
        obtain ⟨E'', R2, F2⟩ := leP_ok hl R1 F' hd
        exact ⟨v, E'', rfl, R2.tm 0, R2.hp, R2.dead, F2⟩
      rw [results_eq]
      split at hr
      · rename_i ps a hres
        obtain ⟨hps, hl⟩ := andP_ok hr
        obtain ⟨us, h1, h2⟩ := resEs_ok (P := C.P) gd R' hres hps
        obtain ⟨u, us', rfl, h3, h4⟩ := h2
        rw [show us' = [] from h4] at h1
        refine ⟨u, by simp [h1], fin (.v a.t a.x) u h3 hl⟩
      · rename_i ps as hne hres
        obtain ⟨hps, hl⟩ := andP_ok hr
        obtain ⟨us, h1, h2⟩ := resEs_ok (P := C.P) gd R' hres hps
        have hl1 : us.length ≠ 1 := by
          rw [ARs.length h2]
          intro h
          obtain ⟨a, rfl⟩ := List.length_eq_one_iff.1 h
          exact hne a rfl
        refine ⟨.tuple us.toArray, by simp [h1, hl1], fin (.tup as) _ ⟨_, rfl, by simpa using h2⟩ hl⟩
      · exact hr.elim
    cases x with
    | normal => exact main hq
    | ret => exact main hq
    | exit j => exact hq.elim
  · exact h.elim

/-- One more function. -/
def addG (G : FuncId → Option Spec) (f : FuncId) (s : Spec) : FuncId → Option Spec := fun g => match Nat.beq g f with
  | true => some s
  | false => G g

theorem Sound.add {P : Program} {G : FuncId → Option Spec} (hG : Sound P G) {f : FuncId} {s : Spec} (he : Enters P f) (h : ∀ args ins out, s args ins = some out → allP out.pre → VCall P f args ins out) : Sound P (addG G f s) := by
  intro g s' hs
  unfold addG at hs
  split at hs
  · rename_i hb
    have := Nat.eq_of_beq_eq_true hb; subst this
    cases hs
    exact ⟨he, h⟩
  · exact hG g s' hs

theorem Sound.none {P : Program} : Sound P (fun _ => none) := fun f s h => by cases h

omit [GTab] in
theorem Meth.none {P : Program} : Meth P (fun _ _ => none) := fun T nm f o h => by cases h

end Go.SL

/- S-logic, part 26: from data handed in to data of this logic; rows. -/
namespace Go.SL
open Go Go.ChangeShapes Go.WideShapes Go.ChangeAt Go.WideMaps Go.WideElems Go.RowKit
variable [GTab]

section
variable {P : Program} {D : TI} (gd : Good P D) {H : Type} {enc : TypeId × Value → H} {W : World} {base : Nat} {spare : Nat → Bool} {held : Bool}

include gd in
omit [GTab] in
theorem cellsOf_ty {T : TypeId} {t : Ty} (h : D.ty T = some t) : P.cellsOf T = t.size := by
  obtain ⟨i, d, z, hi, hd, hs, _⟩ := gd.info h
  simp [Program.cellsOf, hi, hs]

include gd in
omit [GTab] in
theorem desc_ty {T : TypeId} {t : Ty} (h : D.ty T = some t) : ∃ d, P.underlying T = some d ∧ descOk D t d = true := by
  obtain ⟨i, d, z, hi, hd, hs, _, _, h2⟩ := gd.info h
  exact ⟨d, hd, h2⟩

omit [GTab] in
theorem LR.ofPieces {α : Type} {R : α → List Value → Prop} (c : Nat) : ∀ (n : Nat) (cs : List Value), cs.length = n * c → (∀ i, i < n → ∃ d, R d ((cs.drop (i * c)).take c)) → ∃ l : List α, l.length = n ∧ LR R l cs
  | 0, cs, hl, _ => ⟨[], rfl, by simpa [LR] using hl⟩
  | n + 1, cs, hl, h => by
    obtain ⟨d, hd⟩ := h 0 (by omega)
    have hl' : cs.length = n * c + c := by rw [hl, Nat.succ_mul]
    obtain ⟨l, h1, h2⟩ := LR.ofPieces c n (cs.drop c) (by rw [List.length_drop]; omega) (fun i hi => by
      obtain ⟨e, he⟩ := h (i + 1) (by omega)
      refine ⟨e, ?_⟩
      rw [List.drop_drop]
      rw [Nat.succ_mul] at he
      rwa [Nat.add_comm c (i * c)])
    refine ⟨d :: l, by simp [h1], cs.take c, cs.drop c, by simp, by simpa using hd, h2⟩

include gd in
omit [GTab] in
/-- Plain data, out of cells. -/
theorem CR.ofTrod (E : Env) (t : Ty) : (∀ (T : TypeId) (fuel : Nat) (cs : List Value) (x : DataW H × List MemPlace), D.ty T = some t → t.noRef = true → DataW.trod enc P W base spare held fuel T cs = some x → ∃ d : t.I, CR E t d cs) ∧
    (∀ (fs : List Field) (off n : Nat) (cs : List Value), fieldsOk D fs off t = true → t.noRef = true → cs.length = off + t.size →
      (∀ f ∈ fs, ∃ x, DataW.trod enc P W base spare held n f.type ((cs.drop f.offset).take (P.cellsOf f.type)) = some x) → ∃ d : t.I, CR E t d (cs.drop off)) := by
  induction t with
  | int k =>
    refine ⟨fun T fuel cs x hT _ h => ?_, fun fs off n cs h => ?_⟩
    · obtain ⟨d, hd, hok⟩ := desc_ty gd hT
      cases d <;> simp [descOk] at hok
      subst hok
      obtain ⟨n, rfl, _, hw⟩ := DataW.trod_int hd h
      refine ⟨n, rfl, ?_⟩
      simpa [Lit.wf] using hw
    · unfold fieldsOk at h; split at h <;> simp_all
  | bool =>
    refine ⟨fun T fuel cs x hT _ h => ?_, fun fs off n cs h => ?_⟩
    · obtain ⟨d, hd, hok⟩ := desc_ty gd hT
      cases d <;> simp [descOk] at hok
      obtain ⟨b, rfl, _⟩ := DataW.trod_bool hd h
      exact ⟨b, rfl⟩
    · unfold fieldsOk at h; split at h <;> simp_all
  | str =>
    refine ⟨fun T fuel cs x hT _ h => ?_, fun fs off n cs h => ?_⟩
    · obtain ⟨d, hd, hok⟩ := desc_ty gd hT
      cases d <;> simp [descOk] at hok
      obtain ⟨s, rfl, _, hs⟩ := DataW.trod_string hd h
      exact ⟨s, rfl, hs⟩
    · unfold fieldsOk at h; split at h <;> simp_all
  | ref k => exact ⟨fun T fuel cs x _ h => by simp [Ty.noRef] at h, fun fs off n cs h => by unfold fieldsOk at h; split at h <;> simp_all⟩
  | unit =>
    refine ⟨fun T fuel cs x hT _ h => ?_, fun fs off n cs h => by unfold fieldsOk at h; split at h <;> simp_all⟩
    obtain ⟨d, hd, hok⟩ := desc_ty gd hT
    cases d <;> simp [descOk] at hok
    obtain ⟨xs, n, _, _, hl, _⟩ := DataW.trod_struct hd h
    rw [cellsOf_ty gd hT] at hl
    exact ⟨(), List.length_eq_zero_iff.1 hl⟩
  | arr n t ih =>
    refine ⟨fun T fuel cs x hT hn h => ?_, fun fs off n cs h => by unfold fieldsOk at h; split at h <;> simp_all⟩
    obtain ⟨d, hd, hok⟩ := desc_ty gd hT
    cases d <;> simp [descOk] at hok
    obtain ⟨rfl, he⟩ := hok
    obtain ⟨xs, m, _, _, hl, hxl, hx⟩ := DataW.trod_array hd h
    rw [cellsOf_ty gd hT] at hl
    rw [cellsOf_ty gd he] at hx
    obtain ⟨l, h1, h2⟩ := LR.ofPieces (R := CR E t) t.size n cs (by simpa [Ty.size] using hl) (fun i hi => by
      have := hx i hi
      rw [List.getElem?_eq_getElem (by omega)] at this
      exact ih.1 _ _ _ _ he (by simpa [Ty.noRef] using hn) this)
    exact ⟨l, h1, h2⟩
  | last a ih =>
    refine ⟨fun T fuel cs x hT hn h => ?_, fun fs off n cs h hn hl hf => ?_⟩
    · obtain ⟨d, hd, hok⟩ := desc_ty gd hT
      cases d <;> simp [descOk] at hok
      rename_i fs
      obtain ⟨xs, n, _, _, hl, hxl, hx⟩ := DataW.trod_struct hd h
      rw [cellsOf_ty gd hT] at hl
      obtain ⟨fs⟩ := fs
      match fs, hok with
      | [f], hok =>
        simp only [fieldsOk, Bool.and_eq_true, decide_eq_true_eq] at hok
        have := hx 0 f (by simp)
        rw [List.getElem?_eq_getElem (by simp at hxl; omega), hok.2, cellsOf_ty gd hok.1] at this
        have hl2 : cs.length = a.size := hl
        rw [List.drop_zero, List.take_of_length_le (by omega)] at this
        exact ih.1 _ _ _ _ hok.1 hn this
    · match fs, h with
      | [f], h =>
        simp only [fieldsOk, Bool.and_eq_true, decide_eq_true_eq] at h
        obtain ⟨x, hx⟩ := hf f (by simp)
        have hs : (Ty.last a).size = a.size := rfl
        rw [h.2, cellsOf_ty gd h.1, List.take_of_length_le (by rw [List.length_drop]; omega)] at hx
        exact ih.1 _ _ _ _ h.1 hn hx
  | cons a r iha ihr =>
    have key : ∀ (fs : List Field) (off n : Nat) (cs : List Value), fieldsOk D fs off (.cons a r) = true → (Ty.cons a r).noRef = true → cs.length = off + (Ty.cons a r).size →
      (∀ f ∈ fs, ∃ x, DataW.trod enc P W base spare held n f.type ((cs.drop f.offset).take (P.cellsOf f.type)) = some x) → ∃ d : (Ty.cons a r).I, CR E (.cons a r) d (cs.drop off) := by
      intro fs off n cs h hn hl hf
      match fs, h with
      | f :: g :: fs, h =>
        simp only [fieldsOk, Bool.and_eq_true, decide_eq_true_eq] at h
        obtain ⟨⟨h1, h2⟩, h3⟩ := h
        simp only [Ty.noRef, Bool.and_eq_true] at hn
        have hs : (Ty.cons a r).size = a.size + r.size := rfl
        obtain ⟨x, hx⟩ := hf f (by simp)
        rw [h2, cellsOf_ty gd h1] at hx
        obtain ⟨d, hd⟩ := iha.1 _ _ _ _ h1 hn.1 hx
        obtain ⟨e, he⟩ := ihr.2 (g :: fs) (off + a.size) n cs h3 hn.2 (by omega) (fun f hf' => hf f (List.mem_cons_of_mem _ hf'))
        refine ⟨(d, e), (cs.drop off).take a.size, cs.drop (off + a.size), ?_, hd, he⟩
        rw [← List.drop_drop, List.take_append_drop]
    refine ⟨fun T fuel cs x hT hn h => ?_, key⟩
    obtain ⟨d, hd, hok⟩ := desc_ty gd hT
    cases d <;> simp [descOk] at hok
    rename_i fs
    obtain ⟨xs, n, _, _, hl, hxl, hx⟩ := DataW.trod_struct hd h
    rw [cellsOf_ty gd hT] at hl
    have := key fs.toList 0 n cs hok hn (by omega) (fun f hf => by
      obtain ⟨i, hi, rfl⟩ := List.mem_iff_getElem.1 hf
      have hi' : i < fs.size := by simpa using hi
      refine ⟨xs[i]'(by omega), ?_⟩
      have := hx i fs[i] (by simp [hi'])
      rw [List.getElem?_eq_getElem (by omega)] at this
      simpa using this)
    simpa using this

include gd in
omit [GTab] in
/-- Plain data, handed in. -/
theorem AR.ofTrod (E : Env) {t : Ty} {T : TypeId} {r : Reach} {b0 : Nat} {v : Value} {d : DataW H} {ps : List MemPlace} (hT : D.ty T = some t) (hn : t.noRef = true) (hv : Value.okWide P W r b0 T v)
    (h : DataW.Trod enc P W base spare held T v d ps) : ∃ x : t.I, AR E ⟨t, x⟩ v := by
  obtain ⟨fuel, h⟩ := h
  obtain ⟨x, hx⟩ := (CR.ofTrod (H := H) (enc := enc) gd E t).1 T fuel _ _ hT hn h
  refine ⟨x, ?_⟩
  obtain ⟨ds, hd, hok⟩ := desc_ty gd hT
  unfold Value.okWide at hv
  rw [hd] at hv
  unfold AR
  cases t <;> cases ds <;> simp [descOk] at hok <;> simp only [Ty.agg]
  all_goals first
    | (obtain ⟨cs, rfl, _⟩ := hv; exact ⟨cs, rfl, hx⟩)
    | (simp only [Cell.okWide, Cell.ok, hd] at hv
       cases v <;> first | exact hx | exact hv.elim)
    | (simp [Ty.noRef] at hn)

omit [GTab] in
/-- What a slice that is handed in holds. -/
theorem LR.get {α : Type} {R : α → List Value → Prop} : ∀ (l : List α) (cs : List Value), LR R l cs → ∀ x ∈ l, ∃ c, R x c
  | [], _, _, x, hx => by cases hx
  | y :: l, cs, ⟨c1, c2, _, h1, h2⟩, x, hx => by
    rcases List.mem_cons.1 hx with rfl | hx
    · exact ⟨c1, h1⟩
    · exact LR.get l c2 h2 x hx

omit [GTab] in
theorem cells?_cells {w : World} {g o n : Nat} {cs : Array Value} {S : TypeId} {fr : Nat × Nat} (hh : w.heap[g]? = some (.cells cs S fr)) {l : List Value} (h : w.cells? base ⟨g, o, none⟩ n = some l) :
    l = (cs.toList.drop o).take n ∧ l.length = n := by
  obtain ⟨_, hl, hc⟩ := World.cells?_some h
  refine ⟨?_, hl⟩
  apply List.ext_getElem?
  intro i
  by_cases hi : i < n
  · have := hc i hi
    rw [Addr.add_spot, cell_of_row w g (o + i) cs S fr hh] at this
    rw [List.getElem?_take, if_pos hi, List.getElem?_drop, ← this, Array.getElem?_toList]
  · rw [List.getElem?_eq_none (by omega), List.getElem?_take, if_neg hi]

include gd in
omit [GTab] in
/-- A slice, handed in: a block that is only read, or none. -/
theorem slice_ofTrod {T e : TypeId} {t : Ty} {b0 : Nat} {v : Value} {d : DataW H} {ps : List MemPlace} (hT : D.sl T = some e) (he : D.ty e = some t) (hn : t.noRef = true) (hz : 0 < t.size)
    (hv : Value.okWide P W .any b0 T v) (h : DataW.Trod enc P W base (fun _ => true) held T v d ps) :
    ∃ (l : Loc) (xs : List t.I), l.rw = false ∧ l.st ≠ .dead ∧ (∀ E, BR l E ⟨true, false, t, xs⟩ W) ∧ ∀ E k, E k = l → VR E (.slice k t [] 0 xs.length) v := by
  obtain ⟨i, hd, _, _⟩ := gd.slice hT
  obtain ⟨fuel, h⟩ := h
  have hcell : Cell.okWide P W .any b0 T v := by
    unfold Value.okWide at hv; rw [hd] at hv; exact hv
  rcases Go.Deep.open_slice hd h with ⟨h1, _⟩ | ⟨a, len, cap, m, n, Ds, Pl, h1, hb, hlen, hcap, hm, _, hx⟩
  · have : v = .slice none 0 0 := by
      simp only [Cell.okWide, hd] at hcell
      unfold Cell.ok at hcell
      rw [hd] at hcell
      cases v <;> simp [Value.cells] at h1 hcell
      · exact by simp [h1]
    subst this
    refine ⟨⟨0, 0, 0, .virt, false⟩, [], rfl, by simp, fun E => ?_, fun E k hk => ?_⟩
    · show BR _ E _ W
      simp [BR]
    · simp only [VR, hk]
      left; exact ⟨trivial, rfl, trivial, trivial⟩
  · have hve : v = .slice (some a) len cap := by
      simp only [Cell.okWide, hd] at hcell
      unfold Cell.ok at hcell
      rw [hd] at hcell
      cases v <;> simp [Value.cells] at h1 hcell
      · simp [h1]
    subst hve
    simp only [Cell.okWide, hd] at hcell
    unfold Cell.ok at hcell
    rw [hd] at hcell
    obtain ⟨_, _, _, hsp, row, cells, hshape, _⟩ := hcell
    obtain ⟨g, o, sp⟩ := a
    simp only at hsp
    subst hsp
    simp only [World.shape?] at hshape
    have hheap : ∃ cs S fr, W.heap[g]? = some (.cells cs S fr) := by
      cases hh : W.heap[g]? with
      | none => simp [hh] at hshape
      | some ob => cases ob with
        | cells cs S fr => exact ⟨cs, S, fr, rfl⟩
        | _ => simp [hh] at hshape
    obtain ⟨cs, S, fr, hh⟩ := hheap
    simp only [if_true] at hm
    subst hm
    rw [cellsOf_ty gd he] at hx
    by_cases h0 : m = 0
    · subst h0
      have : len = 0 := by omega
      subst this
      refine ⟨⟨g, cs.size, 0, .real, false⟩, [], rfl, by simp, fun E => ?_, fun E k hk => ?_⟩
      · refine BR.ofCells ?_ rfl rfl
        exact ⟨cs, S, fr, hh, by simp, ⟨cs.toList, [], [], by simp, by simp, rfl⟩, by simp⟩
      · simp only [VR, hk]
        right; exact ⟨trivial, 0, _, rfl, Nat.le_refl _, by simp [big], Or.inl rfl⟩
    · have hpc : ∀ i, i < m → ∃ d : t.I, (∀ E, CR E t d ((cs.toList.drop (o + i * t.size)).take t.size)) ∧ ((cs.toList.drop (o + i * t.size)).take t.size).length = t.size := by
        intro i hi
        obtain ⟨cs', hc, htr⟩ := hx i hi
        rw [Addr.add_spot] at hc
        obtain ⟨e1, e2⟩ := cells?_cells hh hc
        obtain ⟨d, hd⟩ := (CR.ofTrod (H := H) (enc := enc) gd (fun _ => ⟨0, 0, 0, .dead, false⟩) t).1 e n _ _ he hn htr
        rw [← e1]
        exact ⟨d, fun E => CR.noRef _ _ _ hn hd, e2⟩
      have hsz : o + m * t.size ≤ cs.size := by
        obtain ⟨d, _, hl⟩ := hpc (m - 1) (by omega)
        rw [List.length_take, List.length_drop, Array.length_toList] at hl
        have : m * t.size = (m - 1) * t.size + t.size := by
          rw [← Nat.succ_mul]; congr 1; omega
        omega
      obtain ⟨xs, hxl, hxs⟩ := LR.ofPieces (R := fun d c => ∀ E, CR E t d c) t.size len ((cs.toList.drop o).take (len * t.size))
        (by rw [List.length_take, List.length_drop, Array.length_toList]; have : len * t.size ≤ m * t.size := Nat.mul_le_mul_right _ hlen; omega)
        (fun i hi => by
          obtain ⟨d, hd, _⟩ := hpc i (by omega)
          refine ⟨d, ?_⟩
          have hle : (i + 1) * t.size ≤ len * t.size := Nat.mul_le_mul_right _ hi
          rw [Nat.succ_mul] at hle
          rw [List.drop_take, List.take_take, List.drop_drop, Nat.min_eq_left (by omega)]
          exact hd)
      refine ⟨⟨g, o, cs.size - o, .real, false⟩, xs, rfl, by simp, fun E => ?_, fun E k hk => ?_⟩
      · refine BR.ofCells ?_ rfl rfl
        refine ⟨cs, S, fr, hh, (by show o + (cs.size - o) = cs.size; omega), ⟨cs.toList.take o, (cs.toList.drop o).take (len * t.size), (cs.toList.drop o).drop (len * t.size), ?_, ?_, LR.imp' (fun d c hc => hc E) _ _ hxs⟩, by simp⟩
        · rw [List.append_assoc, List.take_append_drop, List.take_append_drop]
        · rw [List.length_take, Array.length_toList]; show min o cs.size = o; omega
      · simp only [VR, hk]
        right
        refine ⟨trivial, m, o, by rw [hxl], by omega, by simpa [big, maxLen] using hcap, Or.inr ⟨by simp [offp], ?_⟩⟩
        simp only [List.nil_append, offp, esz, subt, Nat.zero_mul, Nat.zero_add]; omega

/-- What arguments may be: plain data, and slices of plain data, numbered in order. -/
def argsOk (D : TI) : List TypeId → Nat → List AV → List Blk → Prop
  | [], _, as, bs => as = [] ∧ bs = []
  | T :: Ts, k, as, bs => match D.sl T with
    | some e => ∃ (t : Ty) (xs : List t.I) (as' : List AV) (bs' : List Blk), D.ty e = some t ∧ as = ⟨.ref .slice, .slice k t [] 0 xs.length⟩ :: as' ∧ bs = ⟨true, false, t, xs⟩ :: bs' ∧ argsOk D Ts (k + 1) as' bs'
    | none => ∃ (t : Ty) (x : t.I) (as' : List AV), D.ty T = some t ∧ as = ⟨t, x⟩ :: as' ∧ argsOk D Ts k as' bs

/-- Types of arguments that this part takes. -/
def argT (D : TI) (T : TypeId) : Bool := match D.sl T with
  | some e => match D.ty e with
    | some t => t.noRef && Nat.blt 0 t.size
    | none => false
  | none => match D.ty T with
    | some t => t.noRef
    | none => false

include gd in
omit [GTab] in
theorem args_ofTrod : ∀ (Ts : List TypeId) (k : Nat) (vs : List Value) (ds : List (DataW H)) (ps : List MemPlace) (E : Env) (b0 : Nat), (Ts.all (argT D)) = true → (∀ i, k ≤ i → (E i).st = .dead) →
    (∀ (j : Nat) t v, Ts[j]? = some t → vs[j]? = some v → Value.okWide P W .any b0 t v) → DataW.TrodAll enc P W base (fun _ => true) held Ts vs ds ps →
    ∃ (as : List AV) (bs : List Blk) (E' : Env), argsOk D Ts k as bs ∧ (∀ i, i < k → E' i = E i) ∧ (∀ i, k + bs.length ≤ i → (E' i).st = .dead) ∧ ARs E' as vs ∧
      ∀ i b, bs[i]? = some b → b.t.noRef = true ∧ (E' (k + i)).rw = false ∧ (E' (k + i)).st ≠ .dead ∧ BR (E' (k + i)) E' b W
  | [], k, [], [], ps, E, b0, _, hd, _, _ => ⟨[], [], E, ⟨rfl, rfl⟩, fun _ _ => rfl, by simpa using hd, rfl, fun i b h => by simp at h⟩
  | T :: Ts, k, v :: vs, d :: ds, ps, E, b0, ha, hd, hv, ⟨p, q, h1, h2, _⟩ => by
    simp only [List.all_cons, Bool.and_eq_true] at ha
    obtain ⟨ha, has⟩ := ha
    unfold argT at ha
    have hv0 := hv 0 T v rfl rfl
    cases hsl : D.sl T with
    | some e =>
      rw [hsl] at ha
      simp only at ha
      cases hte : D.ty e with
      | none => rw [hte] at ha; cases ha
      | some t =>
        rw [hte] at ha
        simp only [Bool.and_eq_true] at ha
        obtain ⟨hn, hz⟩ := ha
        obtain ⟨l, xs, l1, l2, l3, l4⟩ := slice_ofTrod gd hsl hte hn (Nat.le_of_ble_eq_true hz) hv0 h1
        obtain ⟨as, bs, E', k1, k2, k3, k4, k5⟩ := args_ofTrod Ts (k + 1) vs ds q (fun i => if i = k then l else E i) b0 has (fun i hi => by
          rw [if_neg (by omega)]; exact hd i (by omega)) (fun j t v ht hv' => hv (j + 1) t v (by simpa using ht) (by simpa using hv')) h2
        have hk : E' k = l := by rw [k2 k (by omega)]; simp
        refine ⟨⟨.ref .slice, .slice k t [] 0 xs.length⟩ :: as, ⟨true, false, t, xs⟩ :: bs, E', ?_, fun i hi => ?_, fun i hi => k3 i (by simp at hi; omega), ⟨v, vs, rfl, ?_, k4⟩, fun i b hb => ?_⟩
        · unfold argsOk; rw [hsl]; exact ⟨t, xs, as, bs, hte, rfl, rfl, k1⟩
        · rw [k2 i (by omega)]; simp; omega
        · have hvr := l4 E' k hk
          show CR E' (.ref .slice) _ [v]
          exact ⟨v, rfl, hvr, rfl⟩
        · cases i with
          | zero =>
            simp only [List.getElem?_cons_zero, Option.some.injEq] at hb
            subst hb
            rw [Nat.add_zero, hk]
            exact ⟨hn, l1, l2, l3 E'⟩
          | succ i =>
            have := k5 i b (by simpa using hb)
            rwa [show k + 1 + i = k + (i + 1) by omega] at this
    | none =>
      rw [hsl] at ha
      simp only at ha
      cases hte : D.ty T with
      | none => rw [hte] at ha; cases ha
      | some t =>
        rw [hte] at ha
        obtain ⟨as, bs, E', k1, k2, k3, k4, k5⟩ := args_ofTrod Ts k vs ds q E b0 has hd (fun j t v ht hv' => hv (j + 1) t v (by simpa using ht) (by simpa using hv')) h2
        obtain ⟨x, hx⟩ := AR.ofTrod gd E' hte ha hv0 h1
        refine ⟨⟨t, x⟩ :: as, bs, E', ?_, k2, k3, ⟨v, vs, rfl, hx, k4⟩, k5⟩
        unfold argsOk; rw [hsl]; exact ⟨t, x, as, hte, rfl, k1⟩


/-! ### Rows -/

omit [GTab] in
theorem TrodAll.carry' {w w' : World} : ∀ {ts : List TypeId} {vs : List Value} {ds : List (DataW H)} {ps : List MemPlace}, DataW.TrodAll enc P w base spare held ts vs ds ps → (∀ p ∈ ps, w.sameAt w' p) → DataW.TrodAll enc P w' base spare held ts vs ds ps
  | [], [], [], _, h, _ => h
  | _ :: _, _ :: _, _ :: _, _, ⟨p, q, ⟨n, h1⟩, h2, e⟩, hs => ⟨p, q, ⟨n, DataW.trod_carry n _ _ _ h1 (fun x hx => hs x (by rw [e]; exact List.mem_append_left _ hx))⟩, TrodAll.carry' h2 (fun x hx => hs x (by rw [e]; exact List.mem_append_right _ hx)), e⟩

omit [GTab] in
theorem TrodAll.lens {w : World} : ∀ {ts : List TypeId} {vs : List Value} {ds : List (DataW H)} {ps : List MemPlace}, DataW.TrodAll enc P w base spare held ts vs ds ps → vs.length = ts.length ∧ ds.length = ts.length
  | [], [], [], _, _ => ⟨rfl, rfl⟩
  | _ :: _, _ :: _, _ :: _, _, ⟨_, _, _, h2, _⟩ => by have := TrodAll.lens h2; simp [this.1, this.2]

include gd in
/-- A statement's function that is held to return true, whatever the data: what its row asks. -/
theorem law_calls {T : TypeId → Prop} (K : Kids P T) (hz : ∀ t e, T t → P.underlying t = some (.slice e) → 0 < P.cellsOf e) {f : FuncId} {fn : Func} {s : ChangeSpec} {tb : TypeId} {apart fresh handsOn again : Bool}
    (hT : ∀ t ∈ fn.params.toList, T t) (hargs : fn.params.toList.all (argT D) = true) (hres : fn.resultTypes = #[tb]) (hb : P.underlying tb = some .bool) (hvars : s.vars = [])
    (hs : ∀ ds : List (DataW H), ds.length = fn.params.size → s.fn H ds = { results := [.lit (.bool true)], args := ds })
    (hV : ∀ as bs, argsOk D fn.params.toList 0 as bs → VCall P f as bs ⟨[], .v .bool true, [], []⟩)
    (hgl : ∀ g a, GTab.tab g = some a → ∃ cs T fr, W.heap[g]? = some (.cells cs T fr) ∧ ∀ E', CR E' a.t a.x cs.toList)
    {b0 : Nat} {args : Array Value} {ds gs : List (DataW H)} {before : List MemPlace}
    (hval : ∀ (j : Nat) t v, fn.params[j]? = some t → args[j]? = some v → Value.okWide P W .any b0 t v)
    (hW : DataW.Whole enc P fn.params.toList s.vars apart W args.toList ds gs before) :
    Calls P f args W fun e W' => ∃ v, e = .returned v ∧ s.post enc P fn apart fresh handsOn again W args v W' := by
  have hW0 := hW
  obtain ⟨p, q, hA, hVr, rfl, hfz, hnd⟩ := hW
  have hq : gs = [] ∧ q = [] := by
    rw [hvars] at hVr
    cases gs with
    | nil => exact ⟨rfl, hVr⟩
    | cons g gs => exact hVr.elim
  obtain ⟨rfl, rfl⟩ := hq
  obtain ⟨as, bs, E, h1, _, h3, h4, h5⟩ := args_ofTrod gd fn.params.toList 0 args.toList ds p (fun _ => ⟨0, 0, 0, .dead, false⟩) b0 hargs (fun _ _ => rfl)
    (fun j t v ht hv => hval j t v (by simpa using ht) (by simpa using hv)) hA
  simp only [Nat.zero_add] at h3 h5
  have hrw : ∀ j, (E j).st = .real → (E j).rw = true → False := by
    intro j hj hr
    by_cases hl : j < bs.length
    · have := (h5 j bs[j] (by simp [hl])).2.1
      rw [this] at hr; cases hr
    · have := h3 j (by omega)
      rw [this] at hj; cases hj
  have hH : HR E (hpF (bs.map some)) W := by
    have hget : ∀ i b, hpF (bs.map some) i = some b → bs[i]? = some b := by
      intro i b h
      simp only [hpF, List.getElem?_map] at h
      cases hbi : bs[i]? with
      | none => simp [hbi] at h
      | some c => simpa [hbi] using h
    exact ⟨fun g a hg => ⟨hgl g a hg, fun i hr hw => (hrw i hr hw).elim⟩, fun i b h => (h5 i b (hget i b h)).2.2.2, fun i j b c _ _ hi _ hr => (hrw i hi hr).elim⟩
  have hC := hV as bs h1 E args.toList W h4 hH h3
  rw [show args.toList.toArray = args from rfl] at hC
  refine hC.mono ?_
  rintro e W' ⟨v, E', rfl, hv, _, _, F⟩
  have same : ∀ b, b < W.heap.size → W'.heap[b]? = W.heap[b]? := fun b hb => F.keep b hb (fun j h1 h2 => (hrw j h1 h2).elim)
  have hvt : v = .bool true := by
    have : CR E' .bool true [v] := hv
    simp only [CR] at this
    exact List.singleton_inj.1 this
  subst hvt
  have hlt : ∀ x ∈ p ++ [], x.block < W.heap.size := hW0.lt
  simp only [List.append_nil] at *
  have hsame : ∀ x ∈ p, W.sameAt W' x := by
    intro x hx
    have := same x.block (hlt x hx)
    cases x with
    | cell b off => simp only [MemPlace.block] at this; simp only [World.sameAt, World.cell?, this]
    | map b => exact this
  have hsf := hs ds (by have := (TrodAll.lens hA).2; simpa using this)
  have hAny : ∀ sp : Nat → Bool, (∀ x ∈ p, sp x.block = true) → DataW.TrodAll enc P W' 0 sp true fn.params.toList args.toList ds p := fun sp hsp =>
    TrodAll.carry' (hA.respare K hz hT hsp) hsame
  have hrl : Value.resultList fn.resultTypes.size (.bool true) = [.bool true] := by rw [hres]; rfl
  have hrt : fn.resultTypes.toList = [tb] := by rw [hres]
  have hR : ∀ (b : Nat) (sp : Nat → Bool) (hd : Bool), DataW.TrodAll enc P W' b sp hd fn.resultTypes.toList (Value.resultList fn.resultTypes.size (.bool true)) [.lit (.bool true)] [] := fun b sp hd => by
    rw [hrl, hrt]; exact trodAll_mk1 (shut_bool hb _)
  have hVn : ∀ sp : Nat → Bool, DataW.TrodVars enc P W' sp s.vars [] [] := fun sp => by rw [hvars]; rfl
  refine ⟨_, rfl, ds, [], p, [], p, [], hW0, ?_, ?_, ?_, ?_, fun _ => ⟨?_, _, _, p, ⟨[] ++ p, [], trodAll_append (hAny _ fun _ _ => rfl) (hR _ _ _), hVn _, by simp, ?_, hnd⟩, fun x hx _ => hx⟩⟩
  · rw [List.append_nil, hsf]; exact hR _ _ _
  · rw [List.append_nil, hsf]; exact hAny _ (fun x hx => by simpa using hlt x hx)
  · rw [List.append_nil, hsf]; exact hVn _
  · exact ⟨F.os, F.output, fun i hi => by rw [same i hi]; exact (World.keptBut_refl W (fun x => x ∈ p ∧ (x ∈ ([] : List MemPlace) ∨ x ∈ p ∨ x ∈ ([] : List MemPlace)))).2.2 i hi⟩
  · rw [hrl]
    intro j t r ht hr
    match j, ht, hr with
    | 0, ht, hr =>
      rw [hres] at ht
      simp at ht hr
      subst ht hr
      exact okWide_bool_mk hb _
    | j + 1, _, hr => simp at hr
  · intro b off hp
    have h1 := hfz b off hp
    have h2 := same b (hlt _ hp)
    simpa only [World.frozen?, h2] using h1

end
end Go.SL

/- S-logic, part 28: calls with rows that lie inside blocks. -/
namespace Go.SL
open Go
variable [GTab]

def SV.noRef : SV → Bool
  | .any => true
  | .v t _ => t.noRef
  | .opt _ t _ => t.noRef
  | .tup l => l.all fun a => a.t.noRef
  | .gel _ _ => false

/-- What a function that only reads a row is held to do, of a row inside a block. -/
def viewS (s : Spec) : Spec := fun args ins => match s args ins with
  | some o => some o
  | none => match args, ins with
    | [⟨.ref .slice, .slice 0 t (i :: p) o n⟩], b :: _ => match decide (b.t = t), subt p b.t with
      | true, some (.arr _ u) => (b.els (i :: p) u).bind fun (qs, ys) => (s [⟨.ref .slice, .slice 0 u [] o n⟩] [⟨true, false, u, ys⟩]).bind fun out => match out.upd, out.news, out.v.noRef && u.noRef with
        | [], [], true => some ⟨qs ++ out.pre, out.v, [], []⟩
        | _, _, _ => none
      | _, _ => none
    | _, _ => none

omit [GTab] in
theorem ARs.noRef {E E' : Env} : ∀ {l : List AV} {vs : List Value}, (l.all fun a => a.t.noRef) = true → ARs E l vs → ARs E' l vs
  | [], _, _, H => H
  | a :: l, vs, h, H => by
    simp only [List.all_cons, Bool.and_eq_true] at h
    obtain ⟨v, vs', rfl, h1, h2⟩ := H
    exact ⟨v, vs', rfl, AR.noRef h.1 h1, ARs.noRef h.2 h2⟩

omit [GTab] in
theorem SR.noRef {E E' : Env} {s : SV} {v : Value} (h : s.noRef = true) (H : SR E s v) : SR E' s v := by
  cases s with
  | any => trivial
  | v t x => exact AR.noRef (a := ⟨t, x⟩) h H
  | opt c t x => exact ⟨fun hc => AR.noRef (a := ⟨t, x⟩) h (H.1 hc), H.2⟩
  | tup l =>
    obtain ⟨vs, h1, h2⟩ := H
    exact ⟨vs, h1, ARs.noRef h h2⟩
  | gel g k => exact H

theorem view_call {P : Program} {f : FuncId} {s : Spec} (hs : ∀ args ins out, s args ins = some out → allP out.pre → VCall P f args ins out) {args : List AV} {ins : List Blk} {out : COut}
    (h : viewS s args ins = some out) (hp : allP out.pre) : VCall P f args ins out := by
  unfold viewS at h
  split at h
  · rename_i o ho
    cases h
    exact hs _ _ _ ho hp
  split at h
  case h_2 => cases h
  rename_i rk t i p o n b rest _
  split at h
  case h_2 => cases h
  rename_i nn u hbt hsub
  simp only [decide_eq_true_eq] at hbt
  simp only [Option.bind_eq_some_iff] at h
  obtain ⟨⟨qs, ys⟩, hels, out0, hout, h⟩ := h
  dsimp only at h hout
  split at h
  case h_2 => cases h
  rename_i hu hn hpure
  cases h
  simp only [allP_append] at hp
  simp only [Bool.and_eq_true] at hpure
  intro E vs w hA hH hd
  obtain ⟨v, vs', rfl, hv, rfl⟩ := hA
  have hv := (AR.ref hv).1
  simp only [VR] at hv
  rcases hv with ⟨_, _, hbad, _⟩ | ⟨hst, cap, a, rfl, hcap, hbig, hor⟩
  · cases hbad
  have hb := hH.blk 0 b rfl
  obtain ⟨cs, T, fr, A, B, C, q1, q2, q3, q4, q5, q6, q7⟩ := Blk.els_ok hb hst hels hp.1
  have hsz : cs.size = A.length + B.length + C.length := by rw [← Array.length_toList, q2]; simp only [List.length_append]
  have hes : esz (i :: p) t = u.size := by
    unfold esz; rw [show subt (i :: p) (.arr 0 t) = subt p t from rfl, ← hbt, hsub]
  rw [hbt] at q3 q5
  let l : Loc := ⟨(E 0).blk, (E 0).base + offp (i :: p) (.arr 0 t), (E 0).csz - offp (i :: p) (.arr 0 t), .real, false⟩
  let E0 : Env := fun k => match k with
    | 0 => l
    | _ => ⟨0, 0, 0, .dead, false⟩
  have hA0 : ARs E0 [⟨.ref .slice, .slice 0 u [] o n⟩] [.slice (some ⟨(E 0).blk, a, none⟩) n cap] := by
    refine ⟨_, _, rfl, AR.mkRef ?_ rfl, rfl⟩
    simp only [VR]
    refine .inr ⟨rfl, cap, a, rfl, hcap, hbig, ?_⟩
    rcases hor with h0 | ⟨h1, h2⟩
    · exact .inl h0
    · right
      rw [q5] at h1 h2
      rw [hes] at h2
      have hoff : offp (i :: p) (.arr 0 t) = i * t.size + offp p t := rfl
      simp only [E0, l, List.nil_append, offp, esz, subt, Nat.add_zero]
      exact ⟨by omega, by omega⟩
  have hH0 : HR E0 (hpF ([(⟨true, false, u, ys⟩ : Blk)].map some)) w := by
    refine ⟨hH.gl.sub fun k hr hrw => ?_, fun k c hk => ?_, fun k j c d hk hj _ _ _ _ => ?_⟩
    · cases k with
      | succ k => cases hr
      | zero => cases hrw
    · cases k with
      | succ k => simp [hpF] at hk
      | zero =>
        cases hk
        show BR l E0 _ w
        refine BR.ofCells ?_ rfl rfl
        exact ⟨cs, T, fr, q1, (by show (E 0).base + offp (i :: p) (.arr 0 t) + ((E 0).csz - offp (i :: p) (.arr 0 t)) = cs.size; omega), ⟨A, B, C, q2, q3, LR.imp' (fun x c hx => CR.noRef _ _ _ hpure.2 hx) _ _ q4⟩, fun h => by cases h⟩
    · cases k with
      | succ k => simp [hpF] at hk
      | zero => cases j with
        | succ j => simp [hpF] at hj
        | zero => rfl
  have call := hs _ _ _ hout hp.2 E0 _ w hA0 hH0 (fun k hk => by
    cases k with
    | zero => exact absurd hk (by simp)
    | succ k => rfl)
  refine Calls.mono call ?_
  rintro en w' ⟨v, E', rfl, hv', -, -, hfr⟩
  have hkeep : ∀ k, k < w.heap.size → w'.heap[k]? = w.heap[k]? := fun k hk => hfr.keep k hk fun j _ hj => by
    cases j with
    | zero => cases hj
    | succ j => cases hj
  refine ⟨v, E, rfl, SR.noRef hpure.1 hv', ?_, ?_, ⟨fun _ _ => rfl, fun k h1 h2 => (by rw [h1] at h2; cases h2), hfr.size, fun k hk _ => hkeep k hk, hfr.os, hfr.tape, hfr.output⟩⟩
  · simp only [outHp, List.foldl_nil, List.map_nil, List.append_nil]
    refine ⟨fun g a hg => ?_, fun k c hk => BR.world (fun hr => hkeep _ ((hH.blk k c hk).lt hr)) (hH.blk k c hk), hH.inj⟩
    obtain ⟨⟨cs, T, fr, h1, h2⟩, h3⟩ := hH.gl g a hg
    exact ⟨⟨cs, T, fr, by rw [hkeep g (lt_of_heap h1)]; exact h1, h2⟩, h3⟩
  · intro k hk
    simp only [outHp, List.foldl_nil, List.map_nil, List.append_nil, List.length_map] at hk
    exact hd k hk

/-- All functions of a registry, of rows inside blocks too. -/
def viewG (G : FuncId → Option Spec) : FuncId → Option Spec := fun f => (G f).map viewS

theorem Sound.view {P : Program} {G : FuncId → Option Spec} (hG : Sound P G) : Sound P (viewG G) := by
  intro f s hs
  simp only [viewG, Option.map_eq_some_iff] at hs
  obtain ⟨s0, h0, rfl⟩ := hs
  exact ⟨(hG f s0 h0).1, fun args ins out h hp => view_call (hG f s0 h0).2 h hp⟩

end Go.SL

/- S-logic, part 29: methods of types in interfaces. -/
namespace Go.SL
open Go
variable [GTab]

end Go.SL

/- S-logic, part 30: one more shape of a function's arguments; less told of a block. -/
namespace Go.SL
open Go
variable [GTab]

def orS (s s' : Spec) : Spec := fun args ins => match s args ins with
  | some o => some o
  | none => s' args ins

/-- One more function, or one more shape of a function that is there. -/
def addM (G : FuncId → Option Spec) (f : FuncId) (s : Spec) : FuncId → Option Spec := fun g => match Nat.beq g f with
  | true => match G f with
    | some s0 => some (orS s0 s)
    | none => some s
  | false => G g

theorem Sound.addM {P : Program} {G : FuncId → Option Spec} (hG : Sound P G) {f : FuncId} {s : Spec} (he : Enters P f) (h : ∀ args ins out, s args ins = some out → allP out.pre → VCall P f args ins out) : Sound P (addM G f s) := by
  intro g s' hs
  unfold Go.SL.addM at hs
  split at hs
  · rename_i hb
    have := Nat.eq_of_beq_eq_true hb; subst this
    split at hs
    · rename_i s0 h0
      cases hs
      refine ⟨he, fun args ins out ho hp => ?_⟩
      unfold orS at ho
      split at ho
      · rename_i o h1
        cases ho
        exact (hG g s0 h0).2 args ins _ h1 hp
      · exact h args ins out ho hp
    · cases hs
      exact ⟨he, h⟩
  · exact hG g s' hs

/-- A block's first elements. -/
def Blk.cut (b : Blk) (n : Nat) : Blk := ⟨b.ro, b.one, b.t, b.xs.take n⟩

omit [GTab] in
theorem BR.cut {e : Loc} {E : Env} {b : Blk} {w : World} (h : BR e E b w) (n : Nat) (hm : b.isMap = false) : BR e E (b.cut n) w := by
  unfold BR at *
  cases hs : e.st with
  | dead => rw [hs] at h; exact h
  | virt =>
    rw [hs] at h
    simp only [Blk.cut] at h ⊢
    rw [h]; exact List.take_nil
  | real =>
    rw [hs] at h
    have hm' : (b.cut n).isMap = false := hm
    simp only [hm, hm'] at h ⊢
    obtain ⟨cs, T, fr, h1, h2, ⟨front, cells, rest, e1, e2, e3⟩, h4⟩ := h
    rcases Nat.le_total n b.xs.length with hn | hn
    · obtain ⟨s1, s2⟩ := LR.split (fun x c hx => CR.len b.t x c hx) b.xs cells n e3 hn
      refine ⟨cs, T, fr, h1, h2, ⟨front, cells.take (n * b.t.size), cells.drop (n * b.t.size) ++ rest, ?_, e2, s1⟩, h4⟩
      rw [e1]
      conv => lhs; rw [← List.take_append_drop (n * b.t.size) cells]
      simp only [List.append_assoc]
    · refine ⟨cs, T, fr, h1, h2, ⟨front, cells, rest, e1, e2, ?_⟩, h4⟩
      show LR _ (b.xs.take n) cells
      rw [List.take_of_length_le hn]; exact e3

/-- Less told of what comes out: of a block that is there the first elements alone. -/
theorem VCall.cut {P : Program} {f : FuncId} {args : List AV} {ins : List Blk} {out out' : COut} (h : VCall P f args ins out) (hv : out'.v = out.v) (i : Nat) (b : Blk) (n : Nat)
    (hi : hpF (outHp ins out) i = some b) (ho : outHp ins out' = (outHp ins out).set i (some (b.cut n))) (hm : b.isMap = false := by rfl) : VCall P f args ins out' := by
  intro E vs w hvs hH hd
  have hlen : (outHp ins out').length = (outHp ins out).length := by rw [ho, List.length_set]
  have aux : ∀ j c, hpF (outHp ins out') j = some c → (j ≠ i ∧ hpF (outHp ins out) j = some c) ∨ (j = i ∧ c = b.cut n) := by
    intro j c hj
    rw [ho] at hj
    unfold hpF at hj hi ⊢
    rw [List.getElem?_set] at hj
    by_cases e : i = j
    · subst e
      rw [if_pos rfl] at hj
      split at hj
      · right
        refine ⟨rfl, ?_⟩
        simpa using hj.symm
      · cases hj
    · rw [if_neg e] at hj
      exact .inl ⟨fun h => e h.symm, hj⟩
  refine (h E vs w hvs hH hd).mono ?_
  rintro e w' ⟨v, E', he, h1, h2, h3, h4⟩
  refine ⟨v, E', he, by rw [hv]; exact h1, ⟨h2.gl, fun j c hj => ?_, fun j k c d hj hk hr1 hr2 hrw hee => ?_⟩, by rw [hlen]; exact h3, h4⟩
  · rcases aux j c hj with ⟨_, hj⟩ | ⟨rfl, rfl⟩
    · exact h2.blk j c hj
    · exact (h2.blk j b hi).cut n hm
  · have ex : ∀ j c, hpF (outHp ins out') j = some c → ∃ c', hpF (outHp ins out) j = some c' := by
      intro j c hj
      rcases aux j c hj with ⟨_, hj⟩ | ⟨rfl, rfl⟩
      · exact ⟨c, hj⟩
      · exact ⟨b, hi⟩
    obtain ⟨c', hc'⟩ := ex j c hj
    obtain ⟨d', hd'⟩ := ex k d hk
    exact h2.inj j k c' d' hc' hd' hr1 hr2 hrw hee

end Go.SL

/- Plain laws of lists and of 64-bit numbers. -/
namespace Go.SL.S
open Go

theorem w64 {n : Int} (h : -9223372036854775808 ≤ n) (h' : n ≤ 9223372036854775807) : IntKind.i64.wrap n = n := by
  have e : IntKind.i64.wrap n = if n % 18446744073709551616 ≥ 9223372036854775808 then n % 18446744073709551616 - 18446744073709551616 else n % 18446744073709551616 := by
    simp [IntKind.wrap, IntKind.bits, IntKind.signed]
  rw [e]
  split <;> omega

/-- One more of a list that is taken over, number by number. -/
theorem set_step {α : Type} {s f : List α} {k : Nat} {v : α} (hs : k < s.length) (hf : k < f.length) (hv : s[k]? = some v) : List.set (s.take k ++ f.drop k) k v = s.take (k + 1) ++ f.drop (k + 1) := by
  have hl : (s.take k).length = k := by simp; omega
  rw [List.set_append_right _ _ (by omega), hl, Nat.sub_self, List.drop_eq_getElem_cons hf, List.set_cons_zero, List.take_add_one, hv]
  simp

theorem getD_mem {α : Type} {f : List α} {k : Nat} {d : α} (h : k < f.length) : f.getD k d ∈ f := by
  simp [h]

/-- Division that cuts towards 0. -/
theorem tdm (x : Int) {k : Int} (hk : 0 < k) : x.tdiv k * k + x.tmod k = x ∧ -k < x.tmod k ∧ x.tmod k < k ∧ (0 ≤ x → 0 ≤ x.tmod k ∧ 0 ≤ x.tdiv k) ∧ (x ≤ 0 → x.tmod k ≤ 0 ∧ x.tdiv k ≤ 0) := by
  have h1 := Int.tdiv_mul_add_tmod x k
  have h2 := Int.tmod_lt_of_pos x hk
  have h3 : -k < x.tmod k := by
    have := Int.tmod_lt_of_pos (-x) hk
    rw [Int.neg_tmod] at this; omega
  refine ⟨h1, h3, h2, fun h => ⟨Int.tmod_nonneg k h, Int.tdiv_nonneg h (by omega)⟩, fun h => ?_⟩
  have a := Int.tmod_nonneg k (show 0 ≤ -x by omega)
  have b := Int.tdiv_nonneg (show 0 ≤ -x by omega) (show 0 ≤ k by omega)
  rw [Int.neg_tmod] at a
  rw [Int.neg_tdiv] at b
  omega

end Go.SL.S

/- Heaps: plain laws. -/
namespace Go.SL.S
open Go

def swapL {α : Type} (d : α) (l : List α) (i j : Nat) : List α := (l.set i (l.getD j d)).set j (l.getD i d)

/-- A place is brought up. -/
def upL {α : Type} (lt : α → α → Bool) (d : α) : Nat → List α → Nat → List α
  | 0, l, _ => l
  | f + 1, l, j => match decide ((j - 1) / 2 = j), lt (l.getD j d) (l.getD ((j - 1) / 2) d) with
    | false, true => upL lt d f (swapL d l ((j - 1) / 2) j) ((j - 1) / 2)
    | _, _ => l

/-- The child that comes first. -/
def childL {α : Type} (lt : α → α → Bool) (d : α) (l : List α) (i n : Nat) : Nat := match decide (2 * i + 2 < n), lt (l.getD (2 * i + 2) d) (l.getD (2 * i + 1) d) with
  | true, true => 2 * i + 2
  | _, _ => 2 * i + 1

/-- A place is brought down. -/
def downL {α : Type} (lt : α → α → Bool) (d : α) (n : Nat) : Nat → List α → Nat → List α × Nat
  | 0, l, i => (l, i)
  | f + 1, l, i => match decide (2 * i + 1 < n), lt (l.getD (childL lt d l i n) d) (l.getD i d) with
    | true, true => downL lt d n f (swapL d l i (childL lt d l i n)) (childL lt d l i n)
    | _, _ => (l, i)

theorem childL_cases {α : Type} (lt : α → α → Bool) (d : α) (l : List α) (i n : Nat) : (childL lt d l i n = 2 * i + 1 ∧ (2 * i + 2 < n → lt (l.getD (2 * i + 2) d) (l.getD (2 * i + 1) d) = false)) ∨
    (childL lt d l i n = 2 * i + 2 ∧ 2 * i + 2 < n ∧ lt (l.getD (2 * i + 2) d) (l.getD (2 * i + 1) d) = true) := by
  unfold childL
  split
  · rename_i h1 h2
    exact .inr ⟨rfl, of_decide_eq_true h1, h2⟩
  · rename_i h
    refine .inl ⟨rfl, fun hn => ?_⟩
    cases hl : lt (l.getD (2 * i + 2) d) (l.getD (2 * i + 1) d) with
    | false => rfl
    | true => exact absurd hl (h (decide_eq_true hn))

theorem swapL_len {α : Type} (d : α) (l : List α) (i j : Nat) : (swapL d l i j).length = l.length := by simp [swapL]

theorem swapL_getD {α : Type} (d : α) {l : List α} {i j : Nat} (hi : i < l.length) (hj : j < l.length) (k : Nat) : (swapL d l i j).getD k d = if k = j then l.getD i d else if k = i then l.getD j d else l.getD k d := by
  unfold swapL
  simp only [List.getD_eq_getElem?_getD, List.getElem?_set, List.length_set]
  by_cases h1 : k = j
  · subst h1; simp [hj]
  · rw [if_neg (Ne.symm h1), if_neg h1]
    by_cases h2 : k = i
    · subst h2; simp [hi]
    · rw [if_neg (Ne.symm h2), if_neg h2]

theorem swapL_perm {α : Type} (d : α) {l : List α} {i j : Nat} (hi : i < l.length) (hj : j < l.length) : (swapL d l i j).Perm l := by
  unfold swapL
  have e1 : l.getD i d = l[i] := by simp [hi]
  have e2 : l.getD j d = l[j] := by simp [hj]
  rw [e1, e2]
  exact List.set_set_perm hi hj

theorem upL_len {α : Type} (lt : α → α → Bool) (d : α) : ∀ (f : Nat) (l : List α) (j : Nat), (upL lt d f l j).length = l.length
  | 0, _, _ => rfl
  | f + 1, l, j => by
    rw [upL]
    split
    · rw [upL_len, swapL_len]
    · rfl

theorem upL_perm {α : Type} (lt : α → α → Bool) (d : α) : ∀ (f : Nat) (l : List α) (j : Nat), j < l.length → (upL lt d f l j).Perm l
  | 0, _, _, _ => List.Perm.refl _
  | f + 1, l, j, hj => by
    rw [upL]
    split
    · exact (upL_perm lt d f _ _ (by rw [swapL_len]; omega)).trans (swapL_perm d (by omega) hj)
    · exact List.Perm.refl _

theorem downL_len {α : Type} (lt : α → α → Bool) (d : α) (n : Nat) : ∀ (f : Nat) (l : List α) (i : Nat), (downL lt d n f l i).1.length = l.length
  | 0, _, _ => rfl
  | f + 1, l, i => by
    rw [downL]
    split
    · rw [downL_len, swapL_len]
    · rfl

theorem downL_perm {α : Type} (lt : α → α → Bool) (d : α) (n : Nat) : ∀ (f : Nat) (l : List α) (i : Nat), n ≤ l.length → (downL lt d n f l i).1.Perm l
  | 0, _, _, _ => List.Perm.refl _
  | f + 1, l, i, hn => by
    rw [downL]
    split
    · rename_i h1 h2
      have h1 := of_decide_eq_true h1
      have hc := childL_cases lt d l i n
      exact (downL_perm lt d n f _ _ (by rw [swapL_len]; exact hn)).trans (swapL_perm d (by omega) (by omega))
    · exact List.Perm.refl _

/-- What lies from n on stays. -/
theorem downL_keep {α : Type} (lt : α → α → Bool) (d : α) (n : Nat) : ∀ (f : Nat) (l : List α) (i : Nat), n ≤ l.length → ∀ k, n ≤ k → (downL lt d n f l i).1.getD k d = l.getD k d
  | 0, _, _, _, _, _ => rfl
  | f + 1, l, i, hn, k, hk => by
    rw [downL]
    split
    · rename_i h1 h2
      have h1 := of_decide_eq_true h1
      have hc := childL_cases lt d l i n
      rw [downL_keep lt d n f _ _ (by rw [swapL_len]; exact hn) k hk, swapL_getD d (by omega) (by omega), if_neg (by omega), if_neg (by omega)]
    · rfl

/-- An order: what comes first. -/
structure Ord {α : Type} (lt : α → α → Bool) : Prop where
  asym : ∀ a b, lt a b = true → lt b a = false
  tr : ∀ a b c, lt a b = false → lt b c = false → lt a c = false

theorem Ord.irr {α : Type} {lt : α → α → Bool} (o : Ord lt) (a : α) : lt a a = false := by
  cases h : lt a a with
  | false => rfl
  | true => rw [← h]; exact o.asym a a h

/-- None comes ahead of its parent. -/
def Hp {α : Type} (lt : α → α → Bool) (d : α) (l : List α) (n : Nat) : Prop := ∀ k, 0 < k → k < n → lt (l.getD k d) (l.getD ((k - 1) / 2) d) = false

theorem Hp.first {α : Type} {lt : α → α → Bool} {d : α} {l : List α} {n : Nat} (o : Ord lt) (h : Hp lt d l n) : ∀ k, k < n → lt (l.getD k d) (l.getD 0 d) = false := by
  intro k
  induction k using Nat.strongRecOn with
  | ind k ih =>
    intro hk
    by_cases h0 : k = 0
    · subst h0; exact o.irr _
    · exact o.tr _ _ _ (h k (by omega) hk) (ih ((k - 1) / 2) (by omega) (by omega))

theorem up_hp {α : Type} {lt : α → α → Bool} (o : Ord lt) (d : α) {n : Nat} : ∀ (f : Nat) (l : List α) (j : Nat), j < f → j < n → n ≤ l.length →
    (∀ k, 0 < k → k < n → k ≠ j → lt (l.getD k d) (l.getD ((k - 1) / 2) d) = false) → (∀ k, 0 < k → k < n → (k - 1) / 2 = j → 0 < j → lt (l.getD k d) (l.getD ((j - 1) / 2) d) = false) → Hp lt d (upL lt d f l j) n
  | 0, _, _, h, _, _, _, _ => by omega
  | f + 1, l, j, hf, hj, hn, h1, h2 => by
    rw [upL]
    split
    · rename_i hp hl
      have hp := of_decide_eq_false hp
      have hjp : 0 < j := by omega
      have hps : (j - 1) / 2 < j := by omega
      have hsw := swapL_getD d (l := l) (i := (j - 1) / 2) (j := j) (by omega) (by omega)
      refine up_hp o d f _ _ (by omega) (by omega) (by rw [swapL_len]; exact hn) (fun k hk0 hk hkp => ?_) (fun k hk0 hk hkp hp0 => ?_)
      · rw [hsw, hsw]
        by_cases e1 : k = j
        · subst e1
          rw [if_pos rfl, if_neg (by omega), if_pos rfl]
          exact o.asym _ _ hl
        · rw [if_neg e1, if_neg hkp]
          by_cases e2 : (k - 1) / 2 = j
          · rw [if_pos e2]; exact h2 k hk0 hk e2 hjp
          · rw [if_neg e2]
            by_cases e3 : (k - 1) / 2 = (j - 1) / 2
            · rw [if_pos e3]
              have := h1 k hk0 hk e1
              rw [e3] at this
              exact o.tr _ _ _ this (o.asym _ _ hl)
            · rw [if_neg e3]; exact h1 k hk0 hk e1
      · rw [hsw, hsw, if_neg (c := ((j - 1) / 2 - 1) / 2 = j) (by omega), if_neg (c := ((j - 1) / 2 - 1) / 2 = (j - 1) / 2) (by omega)]
        have hpar := h1 ((j - 1) / 2) hp0 (by omega) (by omega)
        by_cases e1 : k = j
        · rw [if_pos e1]; exact hpar
        · rw [if_neg e1, if_neg (by omega)]
          have := h1 k hk0 hk e1
          rw [hkp] at this
          exact o.tr _ _ _ this hpar
    · rename_i h
      intro k hk0 hk
      by_cases e1 : k = j
      · subst e1
        cases hl : lt (l.getD k d) (l.getD ((k - 1) / 2) d) with
        | false => rfl
        | true => exact absurd hl (h (decide_eq_false (by omega)))
      · exact h1 k hk0 hk e1

theorem down_hp {α : Type} {lt : α → α → Bool} (o : Ord lt) (d : α) {n : Nat} : ∀ (f : Nat) (l : List α) (i : Nat), n - i ≤ f → n ≤ l.length →
    (∀ k, 0 < k → k < n → (k - 1) / 2 ≠ i → lt (l.getD k d) (l.getD ((k - 1) / 2) d) = false) → (∀ k, 0 < k → k < n → (k - 1) / 2 = i → 0 < i → lt (l.getD k d) (l.getD ((i - 1) / 2) d) = false) → Hp lt d (downL lt d n f l i).1 n
  | 0, l, i, hf, _, h1, _ => by
    intro k hk0 hk
    exact h1 k hk0 hk (by omega)
  | f + 1, l, i, hf, hn, h1, h2 => by
    rw [downL]
    have hc := childL_cases lt d l i n
    have kids : 2 * i + 1 < n → ∀ k, 0 < k → k < n → (k - 1) / 2 = i → lt (l.getD k d) (l.getD (childL lt d l i n) d) = false := by
      intro hin k hk0 hk hki
      have : k = 2 * i + 1 ∨ k = 2 * i + 2 := by omega
      rcases hc with ⟨e, h⟩ | ⟨e, hlt, h⟩ <;> rw [e] <;> rcases this with rfl | rfl
      · exact o.irr _
      · exact h hk
      · exact o.asym _ _ h
      · exact o.irr _
    split
    · rename_i hin hl
      have hin := of_decide_eq_true hin
      have hcn : childL lt d l i n < n := by omega
      have hci : i < childL lt d l i n ∧ (childL lt d l i n - 1) / 2 = i := by omega
      have kids := kids hin
      generalize childL lt d l i n = j at *
      clear hc
      have hsw := swapL_getD d (l := l) (i := i) (j := j) (by omega) (by omega)
      refine down_hp o d f _ _ (by omega) (by rw [swapL_len]; exact hn) (fun k hk0 hk hkj => ?_) (fun k hk0 hk hkj _ => ?_)
      · rw [hsw, hsw]
        by_cases e1 : k = j
        · subst e1
          rw [if_pos rfl, if_neg (by omega), if_pos (by omega)]
          exact o.asym _ _ hl
        · rw [if_neg e1, if_neg hkj]
          by_cases e2 : (k - 1) / 2 = i
          · rw [if_pos e2, if_neg (by omega)]
            exact kids k hk0 hk e2
          · rw [if_neg e2]
            by_cases e3 : k = i
            · subst e3
              rw [if_pos rfl]
              exact h2 j (by omega) hcn hci.2 hk0
            · rw [if_neg e3]; exact h1 k hk0 hk e2
      · have := h1 k hk0 hk (by omega)
        rw [hkj] at this
        rw [hsw, hsw, if_neg (by omega), if_neg (by omega), if_neg (by omega), if_pos (by omega)]
        exact this
    · rename_i h
      intro k hk0 hk
      by_cases e1 : (k - 1) / 2 = i
      · have hin : 2 * i + 1 < n := by omega
        rw [e1]
        refine o.tr _ _ _ (kids hin k hk0 hk e1) ?_
        cases hl : lt (l.getD (childL lt d l i n) d) (l.getD i d) with
        | false => rfl
        | true => exact absurd hl (h (decide_eq_true hin))
      · exact h1 k hk0 hk e1

/-- One more, brought up. -/
def pushL {α : Type} (lt : α → α → Bool) (d : α) (l : List α) (x : α) : List α := upL lt d (l.length + 1) (l ++ [x]) l.length

theorem pushL_len {α : Type} (lt : α → α → Bool) (d : α) (l : List α) (x : α) : (pushL lt d l x).length = l.length + 1 := by simp [pushL, upL_len]

theorem pushL_perm {α : Type} (lt : α → α → Bool) (d : α) (l : List α) (x : α) : (pushL lt d l x).Perm (l ++ [x]) := upL_perm lt d _ _ _ (by simp)

theorem push_hp {α : Type} {lt : α → α → Bool} (o : Ord lt) (d : α) {l : List α} (x : α) (h : Hp lt d l l.length) : Hp lt d (pushL lt d l x) (l.length + 1) := by
  refine up_hp o d _ _ _ (by omega) (by omega) (by simp) (fun k hk0 hk hkj => ?_) (fun k hk0 hk hkj h0 => by omega)
  have e1 : (l ++ [x]).getD k d = l.getD k d := by simp only [List.getD_eq_getElem?_getD]; rw [List.getElem?_append_left (by omega)]
  have e2 : (l ++ [x]).getD ((k - 1) / 2) d = l.getD ((k - 1) / 2) d := by simp only [List.getD_eq_getElem?_getD]; rw [List.getElem?_append_left (by omega)]
  rw [e1, e2]
  exact h k hk0 (by omega)

/-- The first one is another one, and brought down. -/
def fixL {α : Type} (lt : α → α → Bool) (d : α) (l : List α) : List α := (downL lt d l.length l.length l 0).1

theorem fix_hp {α : Type} {lt : α → α → Bool} (o : Ord lt) (d : α) {l : List α} (x : α) (h : Hp lt d l l.length) : Hp lt d (fixL lt d (l.set 0 x)) l.length := by
  have hg : ∀ k, k ≠ 0 → (l.set 0 x).getD k d = l.getD k d := fun k hk => by
    simp only [List.getD_eq_getElem?_getD, List.getElem?_set]; rw [if_neg (Ne.symm hk)]
  unfold fixL
  rw [List.length_set]
  refine down_hp o d _ _ _ (by omega) (by simp) (fun k hk0 hk hkj => ?_) (fun k hk0 hk hkj h0 => by omega)
  rw [hg k (by omega), hg _ hkj]
  exact h k hk0 hk

end Go.SL.S

/- Bits in bytes, and a sum of 16 bits: plain functions. -/
namespace Go.SL.S
open Go Go.SL
end Go.SL.S

/- A sum of 16 bits: plain functions. -/
namespace Go.SL.S
open Go Go.SL
end Go.SL.S

/- Bits in bytes: plain laws. -/
namespace Go.SL.A
open Go Go.SL Go.SL.S
set_option maxRecDepth 100000

end Go.SL.A

/- A sum of 16 bits: unlike bytes have unlike sums, where one byte alone is unlike. -/
namespace Go.SL.A
open Go Go.SL Go.SL.S
set_option maxRecDepth 100000

end Go.SL.A

/- The field of 128 elements; sums; few powers' sums. Plain mathematics. -/
namespace Go.SL.S

abbrev E := BitVec 7

def xt (a : E) : E := (a <<< 1) ^^^ (if a.msb then 9#7 else 0#7)

theorem xor_lc (a b c : E) : a ^^^ (b ^^^ c) = b ^^^ (a ^^^ c) := by rw [← BitVec.xor_assoc, BitVec.xor_comm a b, BitVec.xor_assoc]
theorem xor_sl (a b : E) : a ^^^ (a ^^^ b) = b := by rw [← BitVec.xor_assoc, BitVec.xor_self, BitVec.zero_xor]

theorem xt_xor (a b : E) : xt (a ^^^ b) = xt a ^^^ xt b := by
  unfold xt
  rw [BitVec.msb_xor, BitVec.shiftLeft_xor_distrib]
  generalize a <<< 1 = x
  generalize b <<< 1 = y
  cases a.msb <;> cases b.msb <;> simp only [Bool.false_bne, Bool.true_bne, Bool.not_false, Bool.not_true, if_true, if_false, Bool.false_eq_true, BitVec.xor_zero, BitVec.xor_assoc]
  · rw [BitVec.xor_comm y 9#7]
  · rw [xor_lc 9#7 y, BitVec.xor_self, BitVec.xor_zero]

theorem xor_self4 (a b : E) : (a ^^^ b) ^^^ b = a := by rw [BitVec.xor_assoc, BitVec.xor_self, BitVec.xor_zero]
theorem xor_zero_iff {a b : E} : a ^^^ b = 0 ↔ a = b := by
  constructor
  · intro h
    have := congrArg (· ^^^ b) h
    simp only [xor_self4] at this
    rw [this]; simp
  · rintro rfl; simp

def xtn : Nat → E → E
  | 0, a => a
  | n + 1, a => xt (xtn n a)
theorem xtn_xor (n : Nat) (a b : E) : xtn n (a ^^^ b) = xtn n a ^^^ xtn n b := by
  induction n with
  | zero => rfl
  | succ n ih => simp only [xtn, ih, xt_xor]
theorem xtn_zero (n : Nat) : xtn n 0 = 0 := by
  induction n with
  | zero => rfl
  | succ n ih => rw [xtn, ih]; rfl
theorem xtn_add (n m : Nat) (a : E) : xtn (n + m) a = xtn n (xtn m a) := by
  induction n with
  | zero => rw [Nat.zero_add]; rfl
  | succ n ih => rw [Nat.add_right_comm, xtn, ih]; rfl

/-- Powers of 2. -/
def ex (n : Nat) : E := xtn n 1
theorem ex_add (n m : Nat) : ex (n + m) = xtn n (ex m) := xtn_add n m 1
def exL : Nat → E → List E
  | 0, _ => []
  | n + 1, a => a :: exL n (xt a)
theorem exL_len : ∀ n a, (exL n a).length = n
  | 0, _ => rfl
  | n + 1, a => by rw [exL, List.length_cons, exL_len n]
theorem xtn_succ (n : Nat) (a : E) : xtn (n + 1) a = xtn n (xt a) := by
  rw [xtn_add n 1]; rfl
theorem exL_at : ∀ n a i, i < n → (exL n a)[i]? = some (xtn i a)
  | 0, _, i, h => by omega
  | n + 1, a, 0, _ => rfl
  | n + 1, a, i + 1, h => by
    rw [exL, List.getElem?_cons_succ, exL_at n (xt a) i (by omega), xtn_succ]

def exT : List E := exL 127 1
def lgN (a : E) : Nat := exT.idxOf a

theorem ex_T {i : Nat} (h : i < 127) : exT[i]? = some (ex i) := exL_at 127 1 i h
theorem ex127 : ex 127 = 1 := by decide +kernel
theorem lg_all : ((List.range 127).all fun i => lgN (exT.getD i 0) == i) = true := by decide +kernel
theorem lg_lt : ((List.range 128).all fun i => i == 0 || decide (lgN (BitVec.ofNat 7 i) < 127)) = true := by decide +kernel

theorem lg_ex {i : Nat} (h : i < 127) : lgN (ex i) = i := by
  have := List.all_eq_true.1 lg_all i (List.mem_range.2 h)
  rw [List.getD_eq_getElem?_getD, ex_T h] at this
  simpa using this
theorem lg_fit {a : E} (h : a ≠ 0) : lgN a < 127 := by
  have := List.all_eq_true.1 lg_lt a.toNat (List.mem_range.2 a.isLt)
  have h0 : a.toNat ≠ 0 := fun e => h (by apply BitVec.eq_of_toNat_eq; rw [e]; rfl)
  simpa [h0] using this
theorem ex_lg {a : E} (h : a ≠ 0) : ex (lgN a) = a := by
  have hl := lg_fit h
  have e := ex_T hl
  unfold lgN at *
  have hl2 : exT.idxOf a < exT.length := by have : exT.length = 127 := exL_len _ _; omega
  rw [List.getElem?_eq_getElem hl2] at e
  have := List.getElem_idxOf hl2
  rw [← Option.some.inj e, this]
theorem ex_per (n : Nat) : ex (n + 127) = ex n := by rw [ex_add, ex127]; rfl
theorem ex_per' (n k : Nat) : ex (n + 127 * k) = ex n := by
  induction k with
  | zero => rfl
  | succ k ih => rw [Nat.mul_succ, ← Nat.add_assoc, ex_per, ih]
theorem ex_mod (n : Nat) : ex (n % 127) = ex n := by
  have := ex_per' (n % 127) (n / 127)
  rw [Nat.mod_add_div] at this
  exact this.symm
theorem ex_ne (n : Nat) : ex n ≠ 0 := by
  intro h
  have h1 : ex (127 * (n + 1) - n + n) = 1 := by
    rw [show 127 * (n + 1) - n + n = 0 + 127 * (n + 1) by omega, ex_per']; rfl
  rw [ex_add, h, xtn_zero] at h1
  exact absurd h1 (by decide)
theorem ex_inj {i j : Nat} (hi : i < 127) (hj : j < 127) (h : ex i = ex j) : i = j := by
  rw [← lg_ex hi, ← lg_ex hj, h]

/-- The product. -/
def ml (a b : E) : E := if a = 0 then 0 else xtn (lgN a) b

theorem ml_ex {i : Nat} (b : E) : ml (ex i) b = xtn i b := by
  unfold ml
  rw [if_neg (ex_ne i)]
  by_cases hb : b = 0
  · rw [hb, xtn_zero, xtn_zero]
  · rw [← ex_lg hb, ← ex_add, ← ex_add, ← ex_mod (lgN (ex i) + _), ← ex_mod (i + _)]
    have : lgN (ex i) = i % 127 := by rw [← ex_mod i, lg_ex (Nat.mod_lt _ (by omega))]
    rw [this, Nat.mod_add_mod]
theorem ml_exex (i j : Nat) : ml (ex i) (ex j) = ex (i + j) := by rw [ml_ex, ex_add]
theorem zero_ml (a : E) : ml 0 a = 0 := by unfold ml; rw [if_pos rfl]
theorem ml_zero (a : E) : ml a 0 = 0 := by unfold ml; split; rfl; exact xtn_zero _
theorem cases_ex (a : E) : a = 0 ∨ ∃ i, i < 127 ∧ a = ex i := by
  by_cases h : a = 0
  · exact .inl h
  · exact .inr ⟨lgN a, lg_fit h, (ex_lg h).symm⟩
theorem ml_xor (a b c : E) : ml a (b ^^^ c) = ml a b ^^^ ml a c := by
  unfold ml; split
  · rfl
  · exact xtn_xor _ _ _
theorem ml_comm (a b : E) : ml a b = ml b a := by
  rcases cases_ex a with rfl | ⟨i, _, rfl⟩
  · rw [zero_ml, ml_zero]
  · rcases cases_ex b with rfl | ⟨j, _, rfl⟩
    · rw [zero_ml, ml_zero]
    · rw [ml_exex, ml_exex, Nat.add_comm]
theorem xor_ml (a b c : E) : ml (a ^^^ b) c = ml a c ^^^ ml b c := by rw [ml_comm, ml_xor, ml_comm c a, ml_comm c b]
theorem ml_assoc (a b c : E) : ml (ml a b) c = ml a (ml b c) := by
  rcases cases_ex a with rfl | ⟨i, _, rfl⟩
  · simp only [zero_ml]
  · rcases cases_ex b with rfl | ⟨j, _, rfl⟩
    · simp only [zero_ml, ml_zero]
    · rw [ml_exex, ml_ex, ml_ex, ml_ex, xtn_add]
theorem ml_one (a : E) : ml 1 a = a := by have := ml_ex (i := 0) a; exact this
theorem ml_eq_zero {a b : E} (h : ml a b = 0) : a = 0 ∨ b = 0 := by
  rcases cases_ex a with rfl | ⟨i, _, rfl⟩
  · exact .inl rfl
  · rcases cases_ex b with rfl | ⟨j, _, rfl⟩
    · exact .inr rfl
    · rw [ml_exex] at h; exact absurd h (ex_ne _)
theorem ml_left (a b c : E) : ml a (ml b c) = ml b (ml a c) := by rw [← ml_assoc, ml_comm a b, ml_assoc]

/-! ### Sums -/
def xs : Nat → (Nat → E) → E
  | 0, _ => 0
  | n + 1, f => xs n f ^^^ f n
theorem xs_congr {f g : Nat → E} : ∀ {n : Nat}, (∀ i, i < n → f i = g i) → xs n f = xs n g
  | 0, _ => rfl
  | n + 1, h => by rw [xs, xs, xs_congr fun i hi => h i (by omega), h n (by omega)]
theorem xs_zero : ∀ {n : Nat} {f : Nat → E}, (∀ i, i < n → f i = 0) → xs n f = 0
  | 0, _, _ => rfl
  | n + 1, f, h => by rw [xs, xs_zero fun i hi => h i (by omega), h n (by omega)]; rfl
theorem xs_xor (f g : Nat → E) : ∀ n, xs n (fun i => f i ^^^ g i) = xs n f ^^^ xs n g
  | 0 => by simp [xs]
  | n + 1 => by
    rw [xs, xs, xs, xs_xor f g n, BitVec.xor_assoc, xor_lc (xs n g), ← BitVec.xor_assoc]
theorem xs_ml (a : E) (f : Nat → E) : ∀ n, ml a (xs n f) = xs n (fun i => ml a (f i))
  | 0 => ml_zero a
  | n + 1 => by rw [xs, xs, ml_xor, xs_ml a f n]
theorem xs_swap (f : Nat → Nat → E) : ∀ n m, xs n (fun i => xs m (fun j => f i j)) = xs m (fun j => xs n (fun i => f i j))
  | 0, m => (xs_zero fun _ _ => rfl).symm
  | n + 1, m => by
    rw [xs, xs_swap f n m, ← xs_xor]; rfl
theorem xs_one {n k : Nat} {f : Nat → E} (hk : k < n) (h : ∀ i, i < n → i ≠ k → f i = 0) : xs n f = f k := by
  induction n with
  | zero => omega
  | succ n ih =>
    rw [xs]
    by_cases e : k = n
    · subst e
      rw [xs_zero fun i hi => h i (by omega) (by omega)]; simp
    · rw [ih (by omega) fun i hi => h i (by omega), h n (by omega) (by omega)]; simp
theorem xs_more {n m : Nat} {f : Nat → E} (hm : n ≤ m) (h : ∀ i, n ≤ i → i < m → f i = 0) : xs m f = xs n f := by
  induction m with
  | zero => rw [show n = 0 by omega]
  | succ m ih =>
    by_cases e : n = m + 1
    · rw [e]
    · rw [xs, ih (by omega) fun i h1 h2 => h i h1 (by omega), h m (by omega) (by omega)]; simp

/-! ### How many -/
def cn : Nat → (Nat → Bool) → Nat
  | 0, _ => 0
  | n + 1, p => cn n p + (if p n then 1 else 0)
theorem cn_congr {p q : Nat → Bool} : ∀ {n : Nat}, (∀ i, i < n → p i = q i) → cn n p = cn n q
  | 0, _ => rfl
  | n + 1, h => by rw [cn, cn, cn_congr fun i hi => h i (by omega), h n (by omega)]
theorem cn_le {p q : Nat → Bool} : ∀ {n : Nat}, (∀ i, i < n → p i = true → q i = true) → cn n p ≤ cn n q
  | 0, _ => Nat.le_refl _
  | n + 1, h => by
    have := cn_le (n := n) fun i hi => h i (by omega)
    have := h n (by omega)
    rw [cn, cn]
    cases hp : p n <;> cases hq : q n <;> simp_all <;> omega
theorem cn_lt {p q : Nat → Bool} {n k : Nat} (hk : k < n) (hp : p k = false) (hq : q k = true) (h : ∀ i, i < n → p i = true → q i = true) : cn n p + 1 ≤ cn n q := by
  induction n with
  | zero => omega
  | succ n ih =>
    rw [cn, cn]
    by_cases e : k = n
    · subst e
      have := cn_le (n := k) fun i hi => h i (by omega)
      rw [hp, hq]; simp; omega
    · have h1 := ih (by omega) fun i hi => h i (by omega)
      have h2 := h n (by omega)
      cases hp : p n <;> cases hq : q n <;> simp_all <;> omega
theorem cn_zero {p : Nat → Bool} : ∀ {n : Nat}, cn n p = 0 → ∀ i, i < n → p i = false
  | 0, _, i, hi => by omega
  | n + 1, h, i, hi => by
    rw [cn] at h
    by_cases e : i = n
    · subst e
      cases hp : p i with
      | false => rfl
      | true => rw [hp] at h; simp at h
    · exact cn_zero (n := n) (by omega) i (by omega)
theorem cn_sub (p q r : Nat → Bool) : ∀ {n : Nat}, (∀ i, i < n → r i = true → p i = true ∨ q i = true) → cn n r ≤ cn n p + cn n q
  | 0, _ => Nat.le_refl _
  | n + 1, h => by
    have := cn_sub p q r (n := n) fun i hi => h i (by omega)
    have := h n (by omega)
    rw [cn, cn, cn]
    cases hr : r n <;> cases hp : p n <;> cases hq : q n <;> simp_all <;> omega

/-- Of a few places no sums of powers are all 0. -/
theorem vander (N : Nat) (hN : N ≤ 127) (m : Nat) : ∀ (y : Nat → E), cn N (fun i => decide (y i ≠ 0)) ≤ m → (∀ k, k < m → xs N (fun i => ml (y i) (ex (i * k))) = 0) → ∀ i, i < N → y i = 0 := by
  induction m with
  | zero =>
    intro y hc _ i hi
    have := cn_zero (Nat.le_zero.1 hc) i hi
    simpa using this
  | succ m vih =>
    intro y hc hs i hi
    by_cases hz : ∀ i, i < N → y i = 0
    · exact hz i hi
    · obtain ⟨a, ha⟩ := Classical.not_forall.1 hz
      obtain ⟨ha, hya⟩ : a < N ∧ y a ≠ 0 := by simpa using ha
      have ih := vih (fun i => ml (y i) (ex i ^^^ ex a)) (by
        have := cn_lt (n := N) (k := a) (p := fun i => decide (ml (y i) (ex i ^^^ ex a) ≠ 0)) (q := fun i => decide (y i ≠ 0)) ha (by rw [BitVec.xor_self]; exact decide_eq_false fun h => h (ml_zero _)) (by simpa using hya) (fun j _ hj => by
          simp only [decide_eq_true_eq] at hj ⊢
          intro e; rw [e, zero_ml] at hj; exact hj rfl)
        omega) (fun k hk => by
        have h1 := hs (k + 1) (by omega)
        have h2 := hs k (by omega)
        have h3 := xs_ml (ex a) (fun i => ml (y i) (ex (i * k))) N
        rw [h2, ml_zero] at h3
        have h4 := xs_xor (fun i => ml (y i) (ex (i * (k + 1)))) (fun i => ml (ex a) (ml (y i) (ex (i * k)))) N
        rw [h1, ← h3] at h4
        rw [← show (0 : E) ^^^ 0 = 0 by simp, ← h4]
        refine xs_congr fun j _ => ?_
        rw [ml_assoc, xor_ml, ml_exex, ml_left (ex a), ← ml_xor, Nat.mul_succ, Nat.add_comm])
      have hne : ∀ j, j < N → j ≠ a → y j = 0 := fun j hj hja => by
        rcases ml_eq_zero (ih j hj) with h | h
        · exact h
        · exact absurd (ex_inj (Nat.lt_of_lt_of_le hj hN) (Nat.lt_of_lt_of_le ha hN) (xor_zero_iff.1 h)) hja
      have h0 := hs 0 (by omega)
      rw [xs_one ha fun j hj hja => by rw [hne j hj hja, zero_ml]] at h0
      rcases ml_eq_zero h0 with h | h
      · exact absurd h hya
      · exact absurd h (ex_ne _)
end Go.SL.S
