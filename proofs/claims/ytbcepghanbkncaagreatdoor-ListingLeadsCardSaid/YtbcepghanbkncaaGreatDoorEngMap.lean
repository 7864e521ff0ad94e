/- The engine's maps: what they hold, as a row of pairs in whatever order. -/
import Derived.Test.YtbcepghanbkncaaGreatDoorEngSeq
set_option linter.unusedVariables false
set_option linter.unusedSimpArgs false
set_option linter.unusedSectionVars false
namespace Go.Eng
open Go.RowKit
def findE {κ : Type} [BEq κ] (x : κ) : List κ → List MapEntry → Nat → Option (Nat × Value)
  | y :: ys, e :: es, i => cond (x == y) (some (i, e.val)) (findE x ys es (i + 1))
  | _, _, _ => none
structure KeyOk (P : Program) (kT : TypeId) {κ : Type} [BEq κ] (ek : κ → Value) : Prop where
  check : ∀ b w x, (Instr.checkKey b 10000 kT (ek x)).run P w = .ok () w
  find : ∀ w x (es : List MapEntry) (ys : List κ), es.map (·.key) = ys.map ek → (Instr.findKey kT (ek x) es).run P w = .ok (findE x ys es 0) w
  same : ∀ x, Instr.sameBits 10000 (ek x) (ek x) = true
def ekI (k : IntKind) (x : Int) : Value := .int k x
def ekP (k : IntKind) (x : Int × Int) : Value := .agg #[.int k x.1, .int k x.2]
theorem beq_prod {a b c d : Int} : (((a, b) : Int × Int) == (c, d)) = ((a == c) && (b == d)) := rfl
section
variable {P : Program}
theorem findNow_int {k : IntKind} {n : Nat} {T : TypeDesc} (hT : ∃ a, T = .int a) (x : Int) : ∀ (es : List MapEntry) (ys : List Int) (i : Nat), es.map (·.key) = ys.map (ekI k) → Instr.findNow T (.int k x) es i = some (findE x ys es i)
  | [], ys, i, h => by cases ys <;> simp [Instr.findNow, findE]
  | e :: es, [], i, h => by simp at h
  | e :: es, y :: ys, i, h => by
    obtain ⟨a, rfl⟩ := hT
    simp only [List.map_cons, List.cons.injEq] at h
    obtain ⟨h1, h2⟩ := h
    simp only [Instr.findNow, h1, ekI, Instr.sameNow, if_true, findE]
    cases hb : (x == y) with
    | true => rfl
    | false => simp only [cond_false]; exact findNow_int (n := n) ⟨a, rfl⟩ x es ys (i + 1) h2
theorem KeyOk.int (k : IntKind) {kT : TypeId} (hT : (match P.underlying kT with | some (.int _) => true | _ => false) = true) : KeyOk P kT (ekI k) := by
  cases hu : P.underlying kT with
  | none => simp [hu] at hT
  | some d =>
    cases d <;> simp only [hu] at hT <;> first | (cases hT; done) | skip
    rename_i q
    refine ⟨fun b w x => ?_, fun w x es ys h => ?_, fun x => ?_⟩
    · unfold Instr.checkKey
      simp [run_underlying hu, ekI]
    · have := findNow_int (n := 0) (k := k) ⟨q, rfl⟩ x es ys 0 h
      unfold Instr.findKey
      simp only [Sem.run_bind, run_underlying hu, Result.andThen_ok]
      rw [show ekI k x = .int k x from rfl, this]
      rfl
    · simp [ekI, Instr.sameBits]
def ekS (x : ByteArray) : Value := .string x
instance : ReflBEq ByteArray := ⟨fun {a} => by show (a.data == a.data) = true; simp⟩
instance : LawfulBEq ByteArray where
  eq_of_beq {a b} h := ByteArray.ext (eq_of_beq (show (a.data == b.data) = true from h))
theorem findNow_str {T : TypeDesc} (hT : T = .string) (x : ByteArray) : ∀ (es : List MapEntry) (ys : List ByteArray) (i : Nat), es.map (·.key) = ys.map ekS → Instr.findNow T (.string x) es i = some (findE x ys es i)
  | [], ys, i, h => by cases ys <;> simp [Instr.findNow, findE]
  | e :: es, [], i, h => by simp at h
  | e :: es, y :: ys, i, h => by
    simp only [List.map_cons, List.cons.injEq] at h
    obtain ⟨h1, h2⟩ := h
    subst hT
    simp only [Instr.findNow, h1, ekS, Instr.sameNow, findE]
    cases hb : (x == y) with
    | true => rfl
    | false => simp only [cond_false]; exact findNow_str rfl x es ys (i + 1) h2
theorem KeyOk.str {kT : TypeId} (hu : P.underlying kT = some .string) : KeyOk P kT ekS := by
  refine ⟨fun b w x => ?_, fun w x es ys h => ?_, fun x => ?_⟩
  · unfold Instr.checkKey
    simp [run_underlying hu, ekS]
  · have := findNow_str rfl x es ys 0 h
    unfold Instr.findKey
    simp only [Sem.run_bind, run_underlying hu, Result.andThen_ok]
    rw [show ekS x = .string x from rfl, this]
    rfl
  · simp [ekS, Instr.sameBits]
theorem equal_pair {kT E : TypeId} {k q : IntKind} (hu : P.underlying kT = some (.array 2 E)) (hE : P.underlying E = some (.int q)) (hi : (P.info? E).map (·.size) = some 1) (w : World) (x y : Int × Int) :
    (Op.equal kT (ekP k x) (ekP k y)).run P w = .ok (x == y) w := by
  obtain ⟨a, b⟩ := x
  obtain ⟨c, d⟩ := y
  cases hI : P.info? E with
  | none => simp [hI] at hi
  | some inf =>
    simp only [hI, Option.map_some, Option.some.injEq] at hi
    have hpart : ∀ (u v : Int), (part E #[.int k u, .int k v] 0).run P w = .ok (.int k u) w ∧ (part E #[.int k u, .int k v] 1).run P w = .ok (.int k v) w := fun u v => by
      constructor <;> simp [part, isAgg, run_underlying hE]
    have heq : ∀ (n : Nat) (u v : Int), (Op.equalIn (n + 1) E (.int k u) (.int k v)).run P w = .ok (u == v) w := fun n u v => run_equalIn_int w n E k q u v hE
    show (Op.equalIn 10000 kT (ekP k (a, b)) (ekP k (c, d))).run P w = _
    rw [show (10000 : Nat) = 9998 + 1 + 1 from rfl]
    unfold Op.equalIn
    simp only [Sem.run_bind, run_underlying hu, Result.andThen_ok, ekP, sizeOf, typeInfo, hI, run_program, Sem.run_pure, hi]
    cases h1 : (a == c) with
    | false =>
      have e1 := heq 9998 a c
      rw [h1] at e1
      simp [Std.Legacy.Range.forIn_eq_forIn_range', List.range'_succ, (hpart a b).1, (hpart c d).1, e1, beq_prod, h1]
    | true =>
      have e1 := heq 9998 a c
      rw [h1] at e1
      cases h2 : (b == d) with
      | false =>
        have e2 := heq 9998 b d
        rw [h2] at e2
        simp [Std.Legacy.Range.forIn_eq_forIn_range', List.range'_succ, (hpart a b).1, (hpart c d).1, (hpart a b).2, (hpart c d).2, e1, e2, beq_prod, h1, h2]
      | true =>
        have e2 := heq 9998 b d
        rw [h2] at e2
        simp [Std.Legacy.Range.forIn_eq_forIn_range', List.range'_succ, (hpart a b).1, (hpart c d).1, (hpart a b).2, (hpart c d).2, e1, e2, beq_prod, h1, h2]
theorem findAsking_pair {kT E : TypeId} {k q : IntKind} (hu : P.underlying kT = some (.array 2 E)) (hE : P.underlying E = some (.int q)) (hi : (P.info? E).map (·.size) = some 1) (w : World) (x : Int × Int) :
    ∀ (es : List MapEntry) (ys : List (Int × Int)) (i : Nat), es.map (·.key) = ys.map (ekP k) → (Instr.findAsking kT (ekP k x) es i).run P w = .ok (findE x ys es i) w
  | [], ys, i, h => by cases ys <;> simp [Instr.findAsking, findE]
  | e :: es, [], i, h => by simp at h
  | e :: es, y :: ys, i, h => by
    simp only [List.map_cons, List.cons.injEq] at h
    obtain ⟨h1, h2⟩ := h
    unfold Instr.findAsking
    simp only [Sem.run_bind, h1, equal_pair hu hE hi, Result.andThen_ok, findE]
    cases hb : (x == y) with
    | true => simp
    | false => simp only [cond_false, if_false, Bool.false_eq_true]; exact findAsking_pair hu hE hi w x es ys (i + 1) h2
theorem KeyOk.pair (k : IntKind) {kT E : TypeId} {q : IntKind} (hu : P.underlying kT = some (.array 2 E)) (hE : P.underlying E = some (.int q)) (hi : (P.info? E).map (·.size) = some 1) : KeyOk P kT (ekP k) := by
  cases hI : P.info? E with
  | none => simp [hI] at hi
  | some inf =>
    have hi0 := hi
    simp only [hI, Option.map_some, Option.some.injEq] at hi
    refine ⟨fun b w x => ?_, fun w x es ys h => ?_, fun x => ?_⟩
    · have hc : ∀ (n : Nat) (v : Int), (Instr.checkKey b (n + 1) E (.int k v)).run P w = .ok () w := fun n v => by
        unfold Instr.checkKey
        simp [run_underlying hE]
      have hpart : ∀ (u v : Int), (part E #[.int k u, .int k v] 0).run P w = .ok (.int k u) w ∧ (part E #[.int k u, .int k v] 1).run P w = .ok (.int k v) w := fun u v => by
        constructor <;> simp [part, isAgg, run_underlying hE]
      rw [show (10000 : Nat) = 9998 + 1 + 1 from rfl]
      unfold Instr.checkKey
      simp [run_underlying hu, ekP, sizeOf, typeInfo, hI, hi, Std.Legacy.Range.forIn_eq_forIn_range', List.range'_succ, (hpart _ _).1, (hpart _ _).2, hc]
    · unfold Instr.findKey
      simp only [Sem.run_bind, run_underlying hu, Result.andThen_ok]
      cases es with
      | nil => cases ys <;> simp [Instr.findNow, findE]
      | cons e es =>
        have : Instr.findNow (.array 2 E) (ekP k x) (e :: es) 0 = none := by simp [Instr.findNow, Instr.sameNow]
        rw [this]
        exact findAsking_pair hu hE hi0 w x _ ys 0 h
    · obtain ⟨a, b⟩ := x
      simp [ekP, Instr.sameBits]
end
def findK {κ ν : Type} [BEq κ] : List (κ × ν) → κ → Option ν
  | [], _ => none
  | (k, v) :: r, x => cond (x == k) (some v) (findK r x)
def updK {κ ν : Type} [BEq κ] (kvs : List (κ × ν)) (x : κ) (v : ν) : List (κ × ν) := kvs.map fun p => cond (x == p.1) (x, v) p
def insK {κ ν : Type} [BEq κ] (kvs : List (κ × ν)) (x : κ) (v : ν) : List (κ × ν) := cond (findK kvs x).isSome (updK kvs x v) (kvs ++ [(x, v)])
def delK {κ ν : Type} [BEq κ] (kvs : List (κ × ν)) (x : κ) : List (κ × ν) := kvs.filter fun p => !(x == p.1)
section
variable {κ ν : Type} [BEq κ] [LawfulBEq κ]
theorem findK_mem : ∀ {l : List (κ × ν)} {x : κ} {v : ν}, findK l x = some v → (x, v) ∈ l
  | [], x, v, h => by simp [findK] at h
  | (k, u) :: r, x, v, h => by
    simp only [findK] at h
    cases hb : (x == k) with
    | true =>
      simp only [hb, cond_true, Option.some.injEq] at h
      have := eq_of_beq hb
      subst this h
      exact List.mem_cons_self
    | false => simp only [hb, cond_false] at h; exact List.mem_cons_of_mem _ (findK_mem h)
theorem findK_of_mem : ∀ {l : List (κ × ν)} {x : κ} {v : ν}, (l.map Prod.fst).Nodup → (x, v) ∈ l → findK l x = some v
  | (k, u) :: r, x, v, hn, h => by
    simp only [List.map_cons, List.nodup_cons] at hn
    simp only [findK]
    rcases List.mem_cons.1 h with h2 | h2
    · cases h2; simp
    · have hne : (x == k) = false := by
        cases hb : (x == k) with
        | false => rfl
        | true =>
          have := eq_of_beq hb
          subst this
          exact absurd (List.mem_map.2 (⟨(x, v), h2, rfl⟩ : ∃ a ∈ r, Prod.fst a = x)) hn.1
      simp only [hne, cond_false]
      exact findK_of_mem hn.2 h2
theorem findK_none : ∀ {l : List (κ × ν)} {x : κ}, findK l x = none ↔ ∀ p ∈ l, (x == p.1) = false
  | [], x => by simp [findK]
  | (k, u) :: r, x => by
    simp only [findK, List.mem_cons, forall_eq_or_imp]
    cases hb : (x == k) with
    | true => simp
    | false => simp only [cond_false, true_and]; exact findK_none
theorem findK_perm {l l' : List (κ × ν)} (hp : l.Perm l') (hn : (l'.map Prod.fst).Nodup) (x : κ) : findK l x = findK l' x := by
  have hn' : (l.map Prod.fst).Nodup := ((hp.map Prod.fst).nodup_iff).2 hn
  cases h : findK l' x with
  | none => exact findK_none.2 fun p hp' => findK_none.1 h p (hp.mem_iff.1 hp')
  | some v => exact findK_of_mem hn' (hp.mem_iff.2 (findK_mem h))
theorem findE_al {ek : κ → Value} {ev : ν → Value} (x : κ) : ∀ (es : List MapEntry) (l : List (κ × ν)) (j : Nat), es.map (fun e => (e.key, e.val)) = l.map (fun p => (ek p.1, ev p.2)) →
    (findE x (l.map Prod.fst) es j = none ∧ findK l x = none) ∨ ∃ i v, findE x (l.map Prod.fst) es j = some (j + i, ev v) ∧ findK l x = some v ∧ l[i]? = some (x, v)
  | [], [], j, h => .inl ⟨rfl, rfl⟩
  | e :: es, [], j, h => by simp at h
  | [], p :: l, j, h => by simp at h
  | e :: es, (k, u) :: l, j, h => by
    simp only [List.map_cons, List.cons.injEq, Prod.mk.injEq] at h
    obtain ⟨⟨h1, h2⟩, h3⟩ := h
    simp only [List.map_cons, findE, findK]
    cases hb : (x == k) with
    | true =>
      have := eq_of_beq hb
      subst this
      exact .inr ⟨0, u, by simp [h2], rfl, by simp⟩
    | false =>
      simp only [cond_false]
      rcases findE_al x es l (j + 1) h3 with h | ⟨i, v, h4, h5, h6⟩
      · exact .inl h
      · exact .inr ⟨i + 1, v, by rw [h4]; congr 2; omega, h5, by simpa using h6⟩
theorem modify_upd : ∀ {l : List (κ × ν)} {i : Nat} {x : κ} {v : ν} (v' : ν), (l.map Prod.fst).Nodup → l[i]? = some (x, v) → l.modify i (fun _ => (x, v')) = updK l x v'
  | [], i, x, v, v', hn, h => by simp at h
  | (k, u) :: r, 0, x, v, v', hn, h => by
    simp only [List.map_cons, List.nodup_cons] at hn
    simp at h
    obtain ⟨rfl, rfl⟩ := h
    have hr : r.map (fun p => cond (k == p.1) (k, v') p) = r := by
      conv => rhs; rw [← List.map_id r]
      refine List.map_congr_left fun p hp => ?_
      have : (k == p.1) = false := by
        cases hb : (k == p.1) with
        | false => rfl
        | true => have := eq_of_beq hb; exact absurd (List.mem_map.2 ⟨p, hp, this.symm⟩) hn.1
      simp [this]
    simp [updK, hr]
  | (k, u) :: r, i + 1, x, v, v', hn, h => by
    simp only [List.map_cons, List.nodup_cons] at hn
    simp at h
    have hne : (x == k) = false := by
      cases hb : (x == k) with
      | false => rfl
      | true => have := eq_of_beq hb; subst this; exact absurd (List.mem_map.2 ⟨_, List.mem_of_getElem? h, rfl⟩) hn.1
    have := modify_upd v' hn.2 h
    simp only [List.modify_succ_cons, this, updK, List.map_cons, hne, cond_false]
theorem erase_del : ∀ {l : List (κ × ν)} {i : Nat} {x : κ} {v : ν}, (l.map Prod.fst).Nodup → l[i]? = some (x, v) → l.eraseIdx i = delK l x
  | [], i, x, v, hn, h => by simp at h
  | (k, u) :: r, 0, x, v, hn, h => by
    simp only [List.map_cons, List.nodup_cons] at hn
    simp at h
    obtain ⟨rfl, rfl⟩ := h
    have hr : r.filter (fun p => !(k == p.1)) = r := by
      refine List.filter_eq_self.2 fun p hp => ?_
      have : (k == p.1) = false := by
        cases hb : (k == p.1) with
        | false => rfl
        | true => have := eq_of_beq hb; exact absurd (List.mem_map.2 ⟨p, hp, this.symm⟩) hn.1
      simp [this]
    simp [delK, hr]
  | (k, u) :: r, i + 1, x, v, hn, h => by
    simp only [List.map_cons, List.nodup_cons] at hn
    simp at h
    have hne : (x == k) = false := by
      cases hb : (x == k) with
      | false => rfl
      | true => have := eq_of_beq hb; subst this; exact absurd (List.mem_map.2 ⟨_, List.mem_of_getElem? h, rfl⟩) hn.1
    have := erase_del hn.2 h
    simp [delK, hne] at this ⊢
    exact this
theorem updK_keys (l : List (κ × ν)) (x : κ) (v : ν) : (updK l x v).map Prod.fst = l.map Prod.fst := by
  simp only [updK, List.map_map]
  refine List.map_congr_left fun p _ => ?_
  cases hb : (x == p.1) with
  | true => simp [Function.comp, hb, eq_of_beq hb]
  | false => simp [Function.comp, hb]
theorem insK_nodup {l : List (κ × ν)} (hn : (l.map Prod.fst).Nodup) (x : κ) (v : ν) : ((insK l x v).map Prod.fst).Nodup := by
  unfold insK
  cases hf : findK l x with
  | some u => simp only [Option.isSome_some, cond_true, updK_keys]; exact hn
  | none =>
    simp only [Option.isSome_none, cond_false, List.map_append, List.map_cons, List.map_nil]
    refine List.nodup_append.2 ⟨hn, by simp, fun a ha b hb hab => ?_⟩
    simp at hb
    subst hb hab
    obtain ⟨p, hp, rfl⟩ := List.mem_map.1 ha
    have := findK_none.1 hf p hp
    simp at this
theorem delK_nodup {l : List (κ × ν)} (hn : (l.map Prod.fst).Nodup) (x : κ) : ((delK l x).map Prod.fst).Nodup := (List.filter_sublist.map _).nodup hn
def Bn (es : List MapEntry) (clock : Nat) : Prop := (es.map (·.born)).Nodup ∧ ∀ x ∈ es, x.born < clock
theorem Bn.push {es : List MapEntry} {clock : Nat} (h : Bn es clock) (k v : Value) : Bn (es ++ [{ key := k, val := v, born := clock }]) (clock + 1) := by
  refine ⟨?_, fun x hx => ?_⟩
  · rw [List.map_append]
    refine List.nodup_append.2 ⟨h.1, by simp, fun a ha b hb hab => ?_⟩
    obtain ⟨x, hx, rfl⟩ := List.mem_map.1 ha
    have := h.2 x hx
    simp at hb
    omega
  · rcases List.mem_append.1 hx with hx | hx
    · have := h.2 x hx; omega
    · rw [List.mem_singleton.1 hx]; exact Nat.lt_succ_self _
theorem Bn.sub {es es' : List MapEntry} {clock : Nat} (h : Bn es clock) (hs : es'.Sublist es) : Bn es' clock := ⟨(hs.map _).nodup h.1, fun x hx => h.2 x (hs.subset hx)⟩
theorem Bn.same {es es' : List MapEntry} {clock : Nat} (h : Bn es clock) (hs : es'.map (·.born) = es.map (·.born)) : Bn es' clock := by
  refine ⟨by rw [hs]; exact h.1, fun x hx => ?_⟩
  have : x.born ∈ es.map (·.born) := by rw [← hs]; exact List.mem_map.2 ⟨x, hx, rfl⟩
  obtain ⟨y, hy, e⟩ := List.mem_map.1 this
  rw [← e]; exact h.2 y hy
def MapAt (ek : κ → Value) (ev : ν → Value) (b : Nat) (kvs : List (κ × ν)) (w : World) : Prop :=
  (kvs.map Prod.fst).Nodup ∧ ∃ (es : Array MapEntry) (clock : Nat) (l : List (κ × ν)), l.Perm kvs ∧ es.toList.map (fun e => (e.key, e.val)) = l.map (fun p => (ek p.1, ev p.2)) ∧ w.heap[b]? = some (.map es clock) ∧ Bn es.toList clock
def mp (ek : κ → Value) (ev : ν → Value) (b : Nat) (kvs : List (κ × ν)) : Chunk :=
  ⟨[b], fun w _ => MapAt ek ev b kvs w,
    fun {_ _ _ _} h1 h2 h3 hh => let ⟨hn, es, clock, l, hp, hl, h, hbn⟩ := hh; ⟨hn, es, clock, l, hp, hl, (h2 b (Array.getElem?_eq_some_iff.1 h).1 (.inl (List.mem_singleton.2 rfl))).trans h, hbn⟩⟩
def mpR (ek : κ → Value) (ev : ν → Value) (b : Nat) (kvs : List (κ × ν)) : Chunk :=
  ⟨[], fun w M => ¬ M b ∧ MapAt ek ev b kvs w,
    fun {_ _ _ _} h1 h2 h3 hh => let ⟨hm, hn, es, clock, l, hp, hl, h, hbn⟩ := hh; have hlt := (Array.getElem?_eq_some_iff.1 h).1; ⟨fun h4 => hm (h3 b hlt h4), hn, es, clock, l, hp, hl, (h2 b hlt (.inr hm)).trans h, hbn⟩⟩
theorem keys_al {ek : κ → Value} {ev : ν → Value} {es : List MapEntry} {l : List (κ × ν)} (h : es.map (fun e => (e.key, e.val)) = l.map (fun p => (ek p.1, ev p.2))) : es.map (·.key) = (l.map Prod.fst).map ek := by
  have := congrArg (List.map Prod.fst) h
  simp only [List.map_map] at this ⊢
  exact this
end
def mapTy (P : Program) (T : TypeId) : Option (TypeId × TypeId) := match P.underlying T with | some (.map k e) => some (k, e) | _ => none
theorem mapTy_spec {P : Program} {T k e : TypeId} (h : mapTy P T = some (k, e)) : P.underlying T = some (.map k e) := by
  unfold mapTy at h
  cases hu : P.underlying T with
  | none => simp [hu] at h
  | some d => cases d <;> simp [hu] at h; obtain ⟨rfl, rfl⟩ := h; rfl
theorem run_getMap {P : Program} {w : World} {b : Nat} {es : Array MapEntry} {clock : Nat} (h : w.heap[b]? = some (.map es clock)) : (getObj b).run P w = .ok (.map es clock) w := by simp [getObj, Sem.run, h]
theorem run_setMap {P : Program} {w : World} {b : Nat} {es : Array MapEntry} {clock : Nat} (o : Obj) (h : w.heap[b]? = some (.map es clock)) : (setObj b o).run P w = .ok () (w.putObj b o) := by simp [setObj, Sem.run, h, World.putObj]
section
variable {P : Program} {F : Fun P} {k : List It} {e e' : Env} {w w' w0 : World} {R : Ending → World → Prop} {n i c : Nat} {M0 : Nat → Prop} {H : List Chunk} {K : Env → World → Prop} {κ ν : Type} [BEq κ] [LawfulBEq κ] {ek : κ → Value} {ev : ν → Value}
theorem run_lookup {T kT eT : TypeId} {b : Nat} {kvs : List (κ × ν)} {x : κ} {zv : Value} (hT : mapTy P T = some (kT, eT)) (hK : KeyOk P kT ek) (hz : ∀ w, (zeroValue eT).run P w = .ok zv w) (hm : MapAt ek ev b kvs w) (ok : Bool) :
    (Instr.lookup T (.map (some b)) (ek x) ok).run P w = .ok (cond ok (.tuple #[((findK kvs x).map ev).getD zv, .bool (findK kvs x).isSome]) (((findK kvs x).map ev).getD zv)) w := by
  obtain ⟨hn, es, clock, l, hp, hl, hb, -⟩ := hm
  have hu := mapTy_spec hT
  have hfp := findK_perm hp hn x
  have hfind := hK.find w x es.toList (l.map Prod.fst) (keys_al hl)
  unfold Instr.lookup
  rcases findE_al x es.toList l 0 hl with ⟨h1, h2⟩ | ⟨j, v, h1, h2, h3⟩
  · rw [h1] at hfind
    rw [h2] at hfp
    cases ok <;> simp [run_underlying hu, run_getMap hb, hK.check, hfind, hz, ← hfp]
  · rw [h1] at hfind
    rw [h2] at hfp
    cases ok <;> simp [run_underlying hu, run_getMap hb, hK.check, hfind, hz, ← hfp]
def lookupOf (F : Fun P) (n i : Nat) (e : Env) : Option (TypeId × Value × Value × Bool) :=
  match (opOf F.B n i).op with
  | .lookup T x ix ok => some (T, e.eval x, e.eval ix, ok)
  | _ => none
theorem run_lookupOp {T kT eT : TypeId} {b : Nat} {kvs : List (κ × ν)} {x : κ} {zv kv r : Value} {ok : Bool} (hx : lookupOf F n i e = some (T, .map (some b), kv, ok)) (hkv : ek x = kv) (hT : mapTy P T = some (kT, eT)) (hK : KeyOk P kT ek) (hz : ∀ w, (zeroValue eT).run P w = .ok zv w) (hm : MapAt ek ev b kvs w)
    (hr : cond ok (.tuple #[((findK kvs x).map ev).getD zv, .bool (findK kvs x).isSome]) (((findK kvs x).map ev).getD zv) = r) : (execOp e.eval (opOf F.B n i)).run P w = .ok (.value r) w := by
  subst hkv hr
  have h := run_lookup (x := x) hT hK hz hm ok
  unfold lookupOf at hx
  cases hop : (opOf F.B n i).op <;> simp only [hop] at hx <;> first | (cases hx; done) | skip
  simp only [Option.some.injEq, Prod.mk.injEq] at hx
  obtain ⟨rfl, h1, h2, rfl⟩ := hx
  unfold execOp
  simp [hop, h1, h2, h]
theorem OpE.makeMap (d : Nat) (ek : κ → Value) (ev : ν → Value) (hH : Holds M0 w0 w H) (ho : opOk F n i e d = true) (hx : (match (opOf F.B n i).op with | .makeMap _ none => true | _ => false) = true)
    (hn : ∀ w' b, Holds M0 w0 w' (H ++ [mp ek ev b ([] : List (κ × ν))]) → Below w.heap.size w w' → w.heap.size ≤ b → K ((d, .map (some b)) :: e) w') : OpE F n i e w K := by
  have hb : Below w.heap.size w (w.alloc (.map #[] 0)) := (Below.refl _ w).alloc (Nat.le_refl _) _
  have hHn : Holds M0 w0 (w.alloc (.map #[] 0)) (H ++ [mp ek ev w.heap.size ([] : List (κ × ν))]) := by
    have h1 := hH.call hb
    have hsz : (w.alloc (.map #[] 0)).heap.size = w.heap.size + 1 := by simp
    have hm2 : mines (H ++ [mp ek ev w.heap.size ([] : List (κ × ν))]) = mines H ++ [w.heap.size] := by simp [mines, mp]
    refine ⟨h1.below, h1.old, fun c hc => ?_, fun b hb' => ?_, ?_⟩
    · rcases List.mem_append.1 hc with hc | hc
      · refine c.keep hb.size (fun b hlt _ => hb.block b hlt) (fun b hlt hm => ?_) (hH.ok c hc)
        rcases hm with hm | hm
        · exact .inl hm
        · rw [hm2] at hm
          rcases List.mem_append.1 hm with hm | hm
          · exact .inr hm
          · simp at hm; omega
      · rw [List.mem_singleton.1 hc]
        exact ⟨List.nodup_nil, #[], 0, [], List.Perm.refl _, rfl, alloc_new w _, by simp [Bn]⟩
    · rw [hm2] at hb'
      rcases List.mem_append.1 hb' with hb' | hb'
      · exact h1.mine b hb'
      · have := hH.below.size
        simp at hb'
        omega
    · rw [hm2]
      refine List.nodup_append.2 ⟨hH.nodup, by simp, fun u hu v hv huv => ?_⟩
      have := (hH.mine u hu).2
      simp at hv
      omega
  refine OpE.run d ho ?_ (hn _ _ hHn hb (Nat.le_refl _))
  cases hop : (opOf F.B n i).op <;> simp only [hop] at hx <;> first | (cases hx; done) | skip
  rename_i T r
  cases r with
  | some r => cases hx
  | none =>
    unfold execOp
    simp [hop, Instr.makeMap, run_newObj_alloc]
theorem born_modify (es : Array MapEntry) (j : Nat) (k v : Value) : (es.modify j (fun e => { e with key := k, val := v })).toList.map (·.born) = es.toList.map (·.born) := by
  rw [Array.toList_modify]
  refine List.ext_getElem? fun q => ?_
  simp only [List.getElem?_map, List.getElem?_modify]
  cases es.toList[q]? with
  | none => rfl
  | some z => by_cases h : j = q <;> simp [h]
theorem run_update {T kT eT : TypeId} {b : Nat} {kvs : List (κ × ν)} {x : κ} {v : ν} {M : Nat → Prop} (hT : mapTy P T = some (kT, eT)) (hK : KeyOk P kT ek) (hm : (mp ek ev b kvs).ok w M) :
    ∃ es clock, (Instr.mapUpdate T (.map (some b)) (ek x) (ev v)).run P w = .ok () (w.putObj b (.map es clock)) ∧ ∀ M', (w.putObj b (.map es clock)).heap[b]? = some (.map es clock) → (mp ek ev b (insK kvs x v)).ok (w.putObj b (.map es clock)) M' := by
  obtain ⟨hn, es, clock, l, hp, hl, hb, hbn⟩ := hm
  have hu := mapTy_spec hT
  have hnl : (l.map Prod.fst).Nodup := ((hp.map Prod.fst).nodup_iff).2 hn
  have hfp := findK_perm hp hn x
  have hfind := hK.find w x es.toList (l.map Prod.fst) (keys_al hl)
  rcases findE_al x es.toList l 0 hl with ⟨h1, h2⟩ | ⟨j, u, h1, h2, h3⟩
  · rw [h1] at hfind
    rw [h2] at hfp
    refine ⟨es.push { key := ek x, val := ev v, born := clock }, clock + 1, ?_, fun M' hh => ⟨insK_nodup hn x v, _, _, l ++ [(x, v)], ?_, ?_, hh, by rw [Array.toList_push]; exact hbn.push _ _⟩⟩
    · unfold Instr.mapUpdate
      simp [run_underlying hu, run_getMap hb, hK.check, hfind, run_setMap _ hb]
    · simp only [insK, ← hfp, Option.isSome_none, cond_false]
      exact hp.append_right _
    · simp [hl]
  · rw [h1] at hfind
    rw [h2] at hfp
    have hk : ((es[j]?).map (·.key)).getD (ek x) = ek x := by
      have h7 := congrArg (fun q => q[j]?) hl
      simp only [List.getElem?_map, h3, Option.map_some] at h7
      rw [← Array.getElem?_toList]
      cases hq : es.toList[j]? with
      | none => rfl
      | some q => simp only [hq, Option.map_some, Option.some.injEq, Prod.mk.injEq] at h7; simp [h7.1]
    refine ⟨es.modify j (fun e => { e with key := ek x, val := ev v }), clock, ?_, fun M' hh => ⟨insK_nodup hn x v, _, _, updK l x v, ?_, ?_, hh, hbn.same (born_modify es j (ek x) (ev v))⟩⟩
    · unfold Instr.mapUpdate
      simp only [Nat.zero_add] at hfind
      simp only [Sem.run_bind, run_underlying hu, Result.andThen_ok, run_getMap hb, hK.check, hfind]
      rw [hk]
      simp [Instr.keyThatStays, hK.same, run_setMap _ hb]
    · simp only [insK, ← hfp, Option.isSome_some, cond_true]
      exact hp.map _
    · rw [← modify_upd v hnl h3, Array.toList_modify]
      refine List.ext_getElem? fun q => ?_
      have h8 := congrArg (fun z => z[q]?) hl
      simp only [List.getElem?_map, List.getElem?_modify] at h8 ⊢
      by_cases hjq : j = q
      · subst hjq
        rw [h3] at h8 ⊢
        cases hq : es.toList[j]? with
        | none => rw [hq] at h8; cases h8
        | some z => simp
      · simp only [hjq, if_false]
        simpa [Option.map_map, Function.comp] using h8
def insOf (F : Fun P) (n i : Nat) (e : Env) : Option (TypeId × Value × Value × Value) :=
  match (opOf F.B n i).op with
  | .mapUpdate T m k v => some (T, e.eval m, e.eval k, e.eval v)
  | .insert T m k v => some (T, e.eval m, e.eval k, e.eval v)
  | _ => none
theorem OpE.mapSet (c : Nat) (T kT eT : TypeId) {b : Nat} {kvs : List (κ × ν)} (x : κ) (v : ν) {kv vv : Value} (hH : Holds M0 w0 w H) (ho : opOk0 F n i e = true) (hi : H[c]? = some (mp ek ev b kvs)) (hx : insOf F n i e = some (T, .map (some b), kv, vv)) (hkv : ek x = kv) (hvv : ev v = vv)
    (hT : mapTy P T = some (kT, eT)) (hK : KeyOk P kT ek) (kvs' : List (κ × ν)) (he : insK kvs x v = kvs') (hn : ∀ w', Holds M0 w0 w' (H.set c (mp ek ev b kvs')) → Kp [b] w w' → K e w') : OpE F n i e w K := by
  subst hkv hvv he
  obtain ⟨es, clock, hr, hok⟩ := run_update (x := x) (v := v) hT hK (hH.get c hi)
  obtain ⟨h1, h2⟩ := hH.put hi b rfl (mp ek ev b (insK kvs x v)) rfl (.map es clock) hok
  refine OpE.skip ho ?_ (hn _ h1 h2)
  unfold insOf at hx
  cases hop : (opOf F.B n i).op <;> simp only [hop] at hx <;> first | (cases hx; done) | skip
  all_goals
    simp only [Option.some.injEq, Prod.mk.injEq] at hx
    obtain ⟨rfl, h3, h4, h5⟩ := hx
    unfold execOp
    simp [hop, h3, h4, h5, hr]
theorem OpE.lookup (d c : Nat) (T kT eT : TypeId) {b : Nat} {kvs : List (κ × ν)} (x : κ) {zv kv : Value} (r : Value) (ok : Bool) (hH : Holds M0 w0 w H) (ho : opOk F n i e d = true) (hi : H[c]? = some (mp ek ev b kvs)) (hx : lookupOf F n i e = some (T, .map (some b), kv, ok)) (hkv : ek x = kv)
    (hT : mapTy P T = some (kT, eT)) (hK : KeyOk P kT ek) (hz : ∀ w, (zeroValue eT).run P w = .ok zv w) (hr : cond ok (.tuple #[((findK kvs x).map ev).getD zv, .bool (findK kvs x).isSome]) (((findK kvs x).map ev).getD zv) = r) (hn : K ((d, r) :: e) w) : OpE F n i e w K :=
  OpE.run d ho (run_lookupOp hx hkv hT hK hz (hH.get c hi) hr) hn
theorem listed_size (n : Nat) : ∀ L, (listed n L).size = n
  | [] => by simp [listed]
  | a :: L => by simp [listed, listed_size n L]
theorem listed_getD (n : Nat) : ∀ (L : List Nat) (j : Nat) (d : Bool), (listed n L).getD j d = (if j < n then decide (j ∈ L) else d)
  | [], j, d => by
    by_cases h : j < n <;> simp [listed, h]
  | i :: r, j, d => by
    have ih := listed_getD n r j d
    by_cases h : j < n
    · by_cases hij : i = j
      · subst hij; simp [listed, listed_size, h]
      · have h2 : ((listed n r).setIfInBounds i true).getD j d = (listed n r).getD j d := getD_set_ne d hij
        have h3 : ¬ j = i := fun e => hij e.symm
        simp only [listed, h2, ih, h, if_true, List.mem_cons, h3, false_or]
    · simp [listed, listed_size, h]
theorem listed_perm (n : Nat) {L L' : List Nat} (h : ∀ j, j ∈ L ↔ j ∈ L') : listed n L = listed n L' := by
  refine Array.ext (by rw [listed_size, listed_size]) fun j h1 h2 => ?_
  have e1 := listed_getD n L j false
  have e2 := listed_getD n L' j false
  have hj : j < n := by rw [listed_size] at h1; exact h1
  simp only [Array.getD_eq_getD_getElem?, Array.getElem?_eq_getElem h1, Array.getElem?_eq_getElem h2, Option.getD_some, hj, if_true] at e1 e2
  rw [e1, e2]
  simp [h j]
theorem mines_set_same : ∀ (H : List Chunk) (c : Nat) (x y : Chunk), x.mine = y.mine → mines (H.set c x) = mines (H.set c y)
  | [], _, _, _, _ => rfl
  | z :: H, 0, x, y, h => by simp [mines, h]
  | z :: H, c + 1, x, y, h => by
    have := mines_set_same H c x y h
    simp only [mines, List.set_cons_succ, List.flatMap_cons] at this ⊢
    rw [this]
theorem Holds.reword {x : Chunk} (hH : Holds M0 w0 w (H.set c x)) (hc : c < H.length) (y : Chunk) (hm : y.mine = x.mine) (h : ∀ w M, x.ok w M → y.ok w M) : Holds M0 w0 w (H.set c y) := by
  have hm2 := mines_set_same H c y x hm
  have hMs : Mset M0 (H.set c y) = Mset M0 (H.set c x) := by funext z; simp only [Mset, hm2]
  refine ⟨hH.below, hH.old, fun z hz => ?_, by rw [hm2]; exact hH.mine, by rw [hm2]; exact hH.nodup⟩
  rw [hMs]
  obtain ⟨j, hj⟩ := List.mem_iff_getElem?.1 hz
  by_cases hjc : c = j
  · subst hjc
    rw [List.getElem?_set_self hc] at hj
    cases hj
    exact h _ _ (hH.get c (by rw [List.getElem?_set_self hc]))
  · rw [List.getElem?_set_ne hjc] at hj
    exact hH.ok z (List.mem_of_getElem? (i := j) (by rw [List.getElem?_set_ne hjc]; exact hj))
def storesOk (ops : Array Oper) (l is : List Nat) : Bool :=
  is.all (fun i => !(l.contains i) && (match ops[i]? with | some o => o.after.all fun e => !(Region.binds .any e) || (l.contains e.on && Nat.blt e.on ops.size) | none => false)) &&
  (List.range ops.size).all (fun j => l.contains j || is.contains j || (match ops[j]? with | some o => is.all fun i => o.after.any fun e => Region.binds .any e && e.on == i | none => true))
theorem AnyE.inserts {T : List Nat} {ws : World} (c m : Nat) (l : List Nat) (Tt kT eT : TypeId) (b : Nat) (kvs : List (κ × ν)) (ins : List (Nat × κ × ν)) (hH : Holds M0 w0 w H) (hi : H[c]? = some (mp ek ev b kvs)) (hS : Kp T ws w) (hbT : ∀ x ∈ [b], x ∈ T ∨ ws.heap.size ≤ x)
    (hT : mapTy P Tt = some (kT, eT)) (hK : KeyOk P kT ek) (hok : ∀ q ∈ ins, opOk0 F n q.1 e = true ∧ insOf F n q.1 e = some (Tt, .map (some b), ek q.2.1, ev q.2.2)) (hnd : ((kvs ++ ins.map Prod.snd).map Prod.fst).Nodup) (hin : (ins.map Prod.fst).Nodup) (hst : storesOk (opsOf F.B n) l (ins.map Prod.fst) = true)
    (hn : ∀ w', Holds M0 w0 w' (H.set c (mp ek ev b (kvs ++ ins.map Prod.snd))) → Kp T ws w' → AnyE F n k (Kp T ws) m (ins.map Prod.fst ++ l) e w' R) : AnyE F n k (Kp T ws) (ins.length + m) l e w R := by
  simp only [storesOk, Bool.and_eq_true] at hst
  obtain ⟨hst1, hst2⟩ := hst
  have hc : c < H.length := (List.getElem?_eq_some_iff.1 hi).1
  have main : ∀ (r : Nat) (rem done : List (Nat × κ × ν)) (w : World), rem.length = r → (done ++ rem).Perm ins → Holds M0 w0 w (H.set c (mp ek ev b (kvs ++ done.map Prod.snd))) → Kp T ws w → AnyE F n k (Kp T ws) (r + m) (done.map Prod.fst ++ l) e w R := by
    intro r
    induction r with
    | zero =>
      intro rem done w hr hp hHw hSw
      have h0 : rem = [] := List.eq_nil_of_length_eq_zero hr
      subst h0
      rw [List.append_nil] at hp
      have hpk : (kvs ++ done.map Prod.snd).Perm (kvs ++ ins.map Prod.snd) := (hp.map _).append_left _
      have hch : Holds M0 w0 w (H.set c (mp ek ev b (kvs ++ ins.map Prod.snd))) := hHw.reword hc _ rfl fun w M h => by
        obtain ⟨h1, es, clock, l', h2, h3, h4, h5⟩ := h
        exact ⟨hnd, es, clock, l', h2.trans hpk, h3, h4, h5⟩
      have := hn w hch hSw
      intro a ha
      have h2 := this a ha
      rw [Nat.zero_add]
      rwa [listed_perm _ (L' := ins.map Prod.fst ++ l) (fun j => by simp only [List.mem_append, (hp.map Prod.fst).mem_iff])]
    | succ r ih =>
      intro rem done w hr hp hHw hSw a ha
      have hrem : ∀ q ∈ rem, q ∈ ins := fun q hq => hp.mem_iff.1 (List.mem_append_right _ hq)
      have hndi : ((done ++ rem).map Prod.fst).Nodup := ((hp.map Prod.fst).nodup_iff).2 hin
      have rdy : ∀ q ∈ rem, q.1 ∈ Region.ready .any (opsOf F.B n) (listed (opsOf F.B n).size (done.map Prod.fst ++ l)) := fun q hq => by
        have h1 := List.all_eq_true.1 hst1 q.1 (List.mem_map.2 ⟨q, hrem q hq, rfl⟩)
        simp only [Bool.and_eq_true, Bool.not_eq_true'] at h1
        obtain ⟨h1a, h1b⟩ := h1
        refine mem_ready.2 ?_
        cases ho : (opsOf F.B n)[q.1]? with
        | none => simp [ho] at h1b
        | some o =>
          simp only [ho] at h1b
          have hlt : q.1 < (opsOf F.B n).size := (Array.getElem?_eq_some_iff.1 ho).1
          refine ⟨?_, o, rfl, fun ed hed hb => ?_⟩
          · rw [listed_getD]
            simp only [hlt, if_true, decide_eq_false_iff_not, List.mem_append, not_or]
            refine ⟨fun hd => ?_, by simpa using h1a⟩
            rw [List.map_append] at hndi
            exact (List.nodup_append.1 hndi).2.2 q.1 hd q.1 (List.mem_map.2 ⟨q, hq, rfl⟩) rfl
          · have h3 := Array.all_eq_true'.1 h1b ed hed
            simp only [hb, Bool.not_true, Bool.false_or, Bool.and_eq_true] at h3
            have h3' : ed.on ∈ l := by simpa using h3.1
            have h3b : ed.on < (opsOf F.B n).size := by simpa using h3.2
            rw [listed_getD]
            simp only [h3b, if_true, decide_eq_true_eq, List.mem_append]
            exact .inr h3'
      rw [show r + 1 + m = (r + m) + 1 by omega]
      intro w2 hu
      refine ⟨fun h0 => ?_, fun j hj => ?_⟩
      · cases hre : rem with
        | nil => rw [hre] at hr; simp at hr
        | cons q rem' => have := rdy q (by rw [hre]; exact List.mem_cons_self); rw [h0] at this; cases this
      · have hjr : ∃ q ∈ rem, q.1 = j := by
          obtain ⟨hjun, o, ho, hall⟩ := mem_ready.1 hj
          have hlt : j < (opsOf F.B n).size := (Array.getElem?_eq_some_iff.1 ho).1
          rw [listed_getD] at hjun
          simp only [hlt, if_true, decide_eq_false_iff_not, List.mem_append, not_or] at hjun
          have h1 := List.all_eq_true.1 hst2 j (List.mem_range.2 hlt)
          simp only [Bool.or_eq_true, ho] at h1
          rcases h1 with (h1 | h1) | h1
          · exact absurd (by simpa using h1) hjun.2
          · obtain ⟨q, hq, hqj⟩ := List.mem_map.1 (by simpa using h1 : j ∈ ins.map Prod.fst)
            rcases List.mem_append.1 (hp.mem_iff.2 hq) with h2 | h2
            · exact absurd (List.mem_map.2 ⟨q, h2, hqj⟩) hjun.1
            · exact ⟨q, h2, hqj⟩
          · cases hre : rem with
            | nil => rw [hre] at hr; simp at hr
            | cons q rem' =>
              have hq : q ∈ rem := by rw [hre]; exact List.mem_cons_self
              have h2 := List.all_eq_true.1 h1 q.1 (List.mem_map.2 ⟨q, hrem q hq, rfl⟩)
              obtain ⟨ed, hed, hb⟩ := Array.any_eq_true'.1 h2
              simp only [Bool.and_eq_true, beq_iff_eq] at hb
              have h3 := hall ed hed hb.1
              rw [hb.2] at h3
              have h4 := (mem_ready.1 (rdy q hq)).1
              have hqlt : q.1 < (opsOf F.B n).size := by
                obtain ⟨_, o', ho', _⟩ := mem_ready.1 (rdy q hq)
                exact (Array.getElem?_eq_some_iff.1 ho').1
              rw [listed_getD] at h3 h4
              simp only [hqlt, if_true] at h3 h4
              rw [h3] at h4
              cases h4
        obtain ⟨q, hq, rfl⟩ := hjr
        obtain ⟨s, t, hsp⟩ := List.append_of_mem hq
        have hopq := hok q (hrem q hq)
        have hHw2 := hHw.call hu
        have hstep : OpE F n q.1 e w2 (fun e' w' => Kp T ws w' ∧ AnyE F n k (Kp T ws) (r + m) (q.1 :: (done.map Prod.fst ++ l)) e' w' R) := by
          refine OpE.mapSet c Tt kT eT q.2.1 q.2.2 hHw2 hopq.1 (by rw [List.getElem?_set_self hc]) hopq.2 rfl rfl hT hK _ rfl ?_
          intro w' hH' hk'
          have hkp : Kp T ws w' := (hSw.up hu).trans hk' hbT
          refine ⟨hkp, ?_⟩
          have hfk : findK (kvs ++ done.map Prod.snd) q.2.1 = none := by
            refine findK_none.2 fun p hp' => ?_
            cases hb : (q.2.1 == p.1) with
            | false => rfl
            | true =>
              exfalso
              have hqp := eq_of_beq hb
              have hndp : ((kvs ++ (done ++ rem).map Prod.snd).map Prod.fst).Nodup := ((((hp.map Prod.snd).append_left kvs).map Prod.fst).nodup_iff).2 hnd
              rw [List.map_append (f := Prod.snd), ← List.append_assoc, List.map_append (f := Prod.fst)] at hndp
              exact (List.nodup_append.1 hndp).2.2 p.1 (List.mem_map.2 ⟨p, hp', rfl⟩) q.2.1 (List.mem_map.2 ⟨q.2, List.mem_map.2 ⟨q, hq, rfl⟩, rfl⟩) hqp.symm
          have hset : (H.set c (mp ek ev b (kvs ++ done.map Prod.snd))).set c (mp ek ev b (insK (kvs ++ done.map Prod.snd) q.2.1 q.2.2)) = H.set c (mp ek ev b (kvs ++ (done ++ [q]).map Prod.snd)) := by
            rw [List.set_set]
            congr 2
            simp [insK, hfk]
          rw [hset] at hH'
          have hlen : (s ++ t).length = r := by rw [hsp] at hr; simp at hr ⊢; omega
          have := ih (s ++ t) (done ++ [q]) w' hlen (by
            have h5 : (done ++ [q] ++ (s ++ t)).Perm (done ++ rem) := by
              rw [hsp]
              simp only [List.append_assoc]
              refine List.Perm.append_left _ ?_
              simpa using (List.perm_middle (a := q) (l₁ := s) (l₂ := t)).symm
            exact h5.trans hp) hH' hkp
          intro a' ha'
          have h6 := this a' ha'
          rwa [listed_perm _ (L' := q.1 :: (done.map Prod.fst ++ l)) (fun j => by
            simp only [List.map_append, List.map_cons, List.map_nil, List.mem_append, List.mem_cons, List.not_mem_nil, or_false]
            constructor
            · rintro ((h | h) | h)
              · exact .inr (.inl h)
              · exact .inl h
              · exact .inr (.inr h)
            · rintro (h | h | h)
              · exact .inl (.inr h)
              · exact .inl (.inl h)
              · exact .inr h)] at h6
        exact hstep (Qk P F.f F.ro (k.map (It.item F.B)) R) a (fun a' w' => (lastOp (opsOf F.B n) q.1 = false → Kp T ws w') ∧ AnyU P F.ro (opsOf F.B n) (Qk P F.f F.ro (k.map (It.item F.B)) R) (Kp T ws) (r + m) ((listed (opsOf F.B n).size (done.map Prod.fst ++ l)).setIfInBounds q.1 true) a' w') ha
          (fun e' w' a' hk ha' => ⟨fun _ => hk.1, hk.2 a' ha'⟩)
  have h0 : Holds M0 w0 w (H.set c (mp ek ev b (kvs ++ ([] : List (Nat × κ × ν)).map Prod.snd))) := by
    have hself : H.set c (mp ek ev b kvs) = H := by
      refine List.ext_getElem? fun j => ?_
      by_cases hjc : c = j
      · subst hjc; rw [List.getElem?_set_self hc, hi]
      · rw [List.getElem?_set_ne hjc]
    simp only [List.map_nil, List.append_nil]
    rw [hself]
    exact hH
  have := main ins.length ins [] w rfl (List.Perm.refl _) h0 hS
  simpa using this
theorem AnyE.stores {T : List Nat} {ws : World} (c m : Nat) {l : List Nat} (Tt kT eT : TypeId) (b : Nat) (kvs : List (κ × ν)) (ins : List (Nat × κ × ν)) (hH : Holds M0 w0 w H) (hi : H[c]? = some (mp ek ev b kvs)) (hS : Kp T ws w) (hbT : ∀ x ∈ [b], x ∈ T ∨ ws.heap.size ≤ x)
    (hT : mapTy P Tt = some (kT, eT)) (hK : KeyOk P kT ek) (ho : ins.all (fun q => opOk0 F n q.1 e) = true) (hx : ins.map (fun q => insOf F n q.1 e) = ins.map (fun q => some (Tt, .map (some b), ek q.2.1, ev q.2.2))) (hnd : ((kvs ++ ins.map Prod.snd).map Prod.fst).Nodup) (hin : (ins.map Prod.fst).Nodup) (hst : storesOk (opsOf F.B n) l (ins.map Prod.fst) = true)
    {mm : Nat} (hmm : ins.length + m = mm) (kvs' : List (κ × ν)) (hk' : kvs ++ ins.map Prod.snd = kvs') (l' : List Nat) (hl' : ins.map Prod.fst ++ l = l')
    (hn : ∀ w', Holds M0 w0 w' (H.set c (mp ek ev b kvs')) → Kp T ws w' → AnyE F n k (Kp T ws) m l' e w' R) : AnyE F n k (Kp T ws) mm l e w R := by
  subst hmm hk' hl'
  exact AnyE.inserts c m l Tt kT eT b kvs ins hH hi hS hbT hT hK (fun q hq => ⟨List.all_eq_true.1 ho q hq, List.map_inj_left.1 hx q hq⟩) hnd hin hst hn
end
#print axioms OpE.mapSet
#print axioms AnyE.inserts
end Go.Eng
