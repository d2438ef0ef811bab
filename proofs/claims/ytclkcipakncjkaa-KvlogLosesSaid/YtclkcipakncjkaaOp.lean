/- Arguments opened, kind by kind: what their cells tell, and how big they are. -/
import Derived.Test.YtclkcipakncjkaaWMore
import Derived.SizedLaws
import Derived.Deep.Slices
namespace Go.Proofs.YtclkcipakncjkaaOp
open Go Go.RowKit Go.ChangeShapes Go.WideShapes Go.Proofs.YtclkcipakncjkaaW.PrintWords Go.Proofs.YtclkcipakncjkaaW.PrintMore
set_option linter.unusedVariables false
section
variable {H : Type} {enc : TypeId × Value → H} {P : Program} {W : World} {base : Nat} {held : Bool}
/-- Every reading of cells at type t is a value of the kind d. -/
def Opens {α : Type} (enc : TypeId × Value → H) (P : Program) (W : World) (base : Nat) (held : Bool) (t : TypeId) (d : Kd α) (ok : α → Prop) (ms : α → List Nat) : Prop :=
  ∀ (fuel : Nat) (cs : List Value) (x : DataW H × List MemPlace), DataW.trod enc P W base (fun _ => true) held fuel t cs = some x → ∃ a, d.K W a cs ∧ ok a ∧ ∀ m ∈ ms a, m ≠ 0 → ∃ m' ∈ DataW.weights P t x.1, m ≤ m'
theorem Opens.int {t : TypeId} {k : IntKind} (ht : P.underlying t = some (.int k)) : Opens enc P W base held t (Kd.int k) (fun n => (Lit.int k n).wf = true) (fun _ => []) := by
  intro fuel cs x h
  obtain ⟨n, e, e2, hw⟩ := DataW.trod_int ht h
  exact ⟨n, e, hw, fun m hm _ => by cases hm⟩
theorem Opens.bool {t : TypeId} (ht : P.underlying t = some .bool) : Opens enc P W base held t Kd.bool (fun _ => True) (fun _ => []) := by
  intro fuel cs x h
  obtain ⟨n, e, e2⟩ := DataW.trod_bool ht h
  exact ⟨n, e, trivial, fun m hm _ => by cases hm⟩
theorem Opens.string {t : TypeId} (ht : P.underlying t = some .string) : Opens enc P W base held t Kd.string (fun s => s.size ≤ maxLen) (fun s => [s.size]) := by
  intro fuel cs x h
  obtain ⟨s, e, e2, hw⟩ := DataW.trod_string ht h
  refine ⟨s, e, hw, fun m hm _ => ?_⟩
  rw [e2]
  have hm := List.mem_singleton.1 hm
  refine ⟨s.data.toList.length, ?_, by rw [hm, Array.length_toList]; exact Nat.le_refl _⟩
  unfold DataW.weights
  exact List.mem_singleton.2 rfl
theorem mem_all {e : TypeId} {l : List (DataW H)} {d : DataW H} (h : d ∈ l) : ∀ m ∈ DataW.weights P e d, m ∈ DataW.weightsAll P e l := by
  induction l with
  | nil => cases h
  | cons a r ih =>
    intro m hm
    simp only [DataW.weightsAll, List.mem_append]
    rcases List.mem_cons.1 h with rfl | h
    · exact .inl hm
    · exact .inr (ih h m hm)
theorem Opens.slice {α : Type} [Inhabited α] {t e : TypeId} {d : Kd α} {ok : α → Prop} {ms : α → List Nat} (q : Nat) (ht : P.underlying t = some (.slice e)) (hsz : P.cellsOf e = d.sz) (h : Opens enc P W base held e d ok ms) :
    Opens enc P W base held t (Kd.slice q d) (fun l => l.length ≤ maxLen ∧ ∀ a ∈ l, ok a) (fun l => l.length * P.bytesOf e :: l.flatMap ms) := by
  intro fuel cs x hx
  rcases Deep.open_slice ht hx with ⟨rfl, rfl⟩ | ⟨a, len, cap, m, n, D, Pl, rfl, hb, hl, hm, hmm, rfl, hall⟩
  · exact ⟨[], ⟨none, 0, rfl, Nat.le_refl _, rfl, by simp, fun h => absurd h (Nat.lt_irrefl 0)⟩, ⟨Nat.zero_le _, fun a ha => by cases ha⟩, fun m hm h0 => absurd (by simpa using hm) h0⟩
  · simp only [if_true] at hmm
    subst hmm
    have each : ∀ i, i < m → ∃ y : α, ok y ∧ (∃ c, c.length = d.sz ∧ d.K W y c ∧ ∀ j u, c[j]? = some u → W.cell? (a.add (i * d.sz + j)) = some u) ∧ ∀ k ∈ ms y, k ≠ 0 → ∃ k' ∈ DataW.weights P e (D i), k ≤ k' := by
      intro i hi
      obtain ⟨c, h1, h2⟩ := hall i hi
      obtain ⟨y, hk, ho, hw⟩ := h n c _ h2
      obtain ⟨_, hcl, hce⟩ := World.cells?_some h1
      rw [hsz] at hcl hce
      refine ⟨y, ho, ⟨c, hcl, hk, fun j u hu => ?_⟩, hw⟩
      have hj : j < d.sz := by rw [← hcl]; exact (List.getElem?_eq_some_iff.1 hu).1
      rw [← hu, ← hce j hj, Deep.add_add]
    obtain ⟨y, hy⟩ := Deep.choose_lt each
    have hlen : ((List.range len).map y).length = len := by simp
    have hget : ∀ j p, ((List.range len).map y)[j]? = some p → j < len ∧ p = y j := by
      intro j p hp
      obtain ⟨hj, e⟩ := List.getElem?_eq_some_iff.1 hp
      rw [hlen] at hj
      exact ⟨hj, by simpa using e.symm⟩
    refine ⟨(List.range len).map y, ⟨some a, m, by rw [hlen], by rw [hlen]; exact hl, rfl, by rw [hlen]; simp only [maxLen] at hm; omega, fun hn => ⟨a, rfl, fun j p hp => ?_⟩⟩, ⟨by rw [hlen]; exact Nat.le_trans hl hm, fun p hp => ?_⟩, fun k hk hk0 => ?_⟩
    · obtain ⟨hj, rfl⟩ := hget j p hp
      exact (hy j (Nat.lt_of_lt_of_le hj hl)).2.1
    · obtain ⟨j, hj, rfl⟩ := List.mem_map.1 hp
      exact (hy j (Nat.lt_of_lt_of_le (List.mem_range.1 hj) hl)).1
    · simp only [DataW.weights, ht, List.mem_cons, List.mem_append, List.length_map, List.length_range] at hk ⊢
      rcases hk with rfl | hk
      · exact ⟨_, .inl rfl, Nat.mul_le_mul_right _ (by omega)⟩
      · obtain ⟨p, hp, hkp⟩ := List.mem_flatMap.1 hk
        obtain ⟨j, hj, rfl⟩ := List.mem_map.1 hp
        obtain ⟨k', hk', hle⟩ := (hy j (Nat.lt_of_lt_of_le (List.mem_range.1 hj) hl)).2.2 k hkp hk0
        exact ⟨k', .inr (.inl (mem_all (List.mem_map.2 ⟨j, hj, rfl⟩) k' hk')), hle⟩
/-- A struct's fields from one offset on. -/
def OpensF {α : Type} (enc : TypeId × Value → H) (P : Program) (W : World) (base : Nat) (held : Bool) (fs : List Field) (off : Nat) (d : Kd α) (ok : α → Prop) (ms : α → List Nat) : Prop :=
  ∀ (n : Nat) (cs : List Value) (xs : List (DataW H × List MemPlace)), cs.length = off + d.sz → xs.length = fs.length → (∀ (i : Nat) (f : Field), fs[i]? = some f → DataW.trod enc P W base (fun _ => true) held n f.type ((cs.drop f.offset).take (P.cellsOf f.type)) = xs[i]?) →
    ∃ a, d.K W a (cs.drop off) ∧ ok a ∧ ∀ m ∈ ms a, m ≠ 0 → ∃ m' ∈ DataW.weightsEach P (fs.map (·.type)) (xs.map (·.1)), m ≤ m'
theorem OpensF.one {α : Type} {f : Field} {off : Nat} {d : Kd α} {ok : α → Prop} {ms : α → List Nat} (ho : f.offset = off) (hz : P.cellsOf f.type = d.sz) (h : Opens enc P W base held f.type d ok ms) : OpensF enc P W base held [f] off d ok ms := by
  intro n cs xs hc hx hf
  match xs, hx with
  | [x], _ =>
    have h0 := hf 0 f rfl
    rw [ho, hz, List.take_of_length_le (by rw [List.length_drop]; omega)] at h0
    obtain ⟨a, hk, hok, hw⟩ := h n _ x h0
    refine ⟨a, hk, hok, fun m hm hm0 => ?_⟩
    obtain ⟨m', h1, h2⟩ := hw m hm hm0
    exact ⟨m', by simp [DataW.weightsEach, h1], h2⟩
theorem OpensF.cons {α β : Type} {f : Field} {fs : List Field} {off : Nat} {d : Kd α} {d2 : Kd β} {ok : α → Prop} {ok2 : β → Prop} {ms : α → List Nat} {ms2 : β → List Nat} (ho : f.offset = off) (hz : P.cellsOf f.type = d.sz)
    (h : Opens enc P W base held f.type d ok ms) (h2 : OpensF enc P W base held fs (off + d.sz) d2 ok2 ms2) : OpensF enc P W base held (f :: fs) off (Kd.pair d d2) (fun p => ok p.1 ∧ ok2 p.2) (fun p => ms p.1 ++ ms2 p.2) := by
  intro n cs xs hc hx hf
  match xs, hx with
  | x :: xs, hx =>
    have hc' : cs.length = off + (d.sz + d2.sz) := hc
    have h0 := hf 0 f rfl
    rw [ho, hz] at h0
    obtain ⟨a, hk, hok, hw⟩ := h n _ x h0
    obtain ⟨b, hk2, hok2, hw2⟩ := h2 n cs xs (by omega) (by simpa using hx) (fun i f hi => hf (i + 1) f hi)
    refine ⟨(a, b), ⟨(cs.drop off).take d.sz, cs.drop (off + d.sz), ?_, hk, hk2⟩, ⟨hok, hok2⟩, fun m hm hm0 => ?_⟩
    · rw [← List.drop_drop, List.take_append_drop]
    · simp only [List.map_cons, DataW.weightsEach, List.mem_append] at hm ⊢
      rcases hm with hm | hm
      · obtain ⟨m', h1, h2⟩ := hw m hm hm0
        exact ⟨m', .inl h1, h2⟩
      · obtain ⟨m', h1, h2⟩ := hw2 m hm hm0
        exact ⟨m', .inr h1, h2⟩
theorem Opens.struct {α : Type} {t : TypeId} {fs : Array Field} {d : Kd α} {ok : α → Prop} {ms : α → List Nat} (ht : P.underlying t = some (.struct fs)) (hz : P.cellsOf t = d.sz) (h : OpensF enc P W base held fs.toList 0 d ok ms) : Opens enc P W base held t d ok ms := by
  intro fuel cs x hx
  obtain ⟨xs, n, _, rfl, hcl, hxl, hf⟩ := DataW.trod_struct ht hx
  obtain ⟨a, hk, hok, hw⟩ := h n cs xs (by omega) (by simpa using hxl) (fun i f hi => hf i f (by simpa using hi))
  refine ⟨a, hk, hok, fun m hm hm0 => ?_⟩
  obtain ⟨m', h1, h2⟩ := hw m hm hm0
  exact ⟨m', by simp only [DataW.weights, ht]; exact h1, h2⟩
theorem Opens.iso {α β : Type} {t : TypeId} {d : Kd α} {ok : α → Prop} {ms : α → List Nat} (f : β → α) (g : α → β) (hfg : ∀ a, f (g a) = a) (h : Opens enc P W base held t d ok ms) : Opens enc P W base held t (Kd.iso d f) (fun b => ok (f b)) (fun b => ms (f b)) := by
  intro fuel cs x hx
  obtain ⟨a, hk, hok, hw⟩ := h fuel cs x hx
  exact ⟨g a, by show d.K W (f (g a)) cs; rw [hfg]; exact hk, by show ok (f (g a)); rw [hfg]; exact hok, by show ∀ m ∈ ms (f (g a)), _; rw [hfg]; exact hw⟩
/-- A slice among a law's arguments. -/
theorem slice_arg {α : Type} [Inhabited α] {t e : TypeId} {d : Kd α} {ok : α → Prop} {ms : α → List Nat} {a : Option Addr} {len cap : Nat} {x : DataW H} {ps : List MemPlace} {ts : List TypeId} {ds : List (DataW H)} {j : Nat}
    (hs : (DataW.weightsEach P ts ds).all (· ≤ reachBytes) = true) (hj : ts[j]? = some t) (hd : ds[j]? = some x) (ht : P.underlying t = some (.slice e)) (hsz : P.cellsOf e = d.sz) (ho : Opens enc P W base held e d ok ms)
    (h : DataW.Trod enc P W base (fun _ => true) held t (.slice a len cap) x ps) :
    ∃ l : List α, len = l.length ∧ d.C W a l.length l ∧ l.length ≤ cap ∧ (∀ y ∈ l, ok y) ∧ l.length * P.bytesOf e ≤ 140737488351232 ∧ ∀ y ∈ l, ∀ m ∈ ms y, m ≤ 140737488351232 := by
  obtain ⟨fuel, hf⟩ := h
  obtain ⟨l, ⟨A, c, e1, hl, hC⟩, ⟨_, hok⟩, hw⟩ := (Opens.slice 0 ht hsz ho) fuel _ _ hf
  have hr : reachBytes = 140737488351232 := rfl
  have hall : ∀ m ∈ l.length * P.bytesOf e :: l.flatMap ms, m ≤ 140737488351232 := by
    intro m hm
    by_cases hm0 : m = 0
    · omega
    obtain ⟨m', h1, h2⟩ := hw m hm hm0
    have h9 := List.all_eq_true.1 hs _ (DataW.weights_mem_each hj hd m' h1)
    have h9 := of_decide_eq_true h9
    omega
  simp [Value.cells] at e1
  obtain ⟨rfl, rfl, rfl⟩ := e1
  exact ⟨l, rfl, hC, hl, hok, hall _ (List.mem_cons_self ..), fun y hy m hm => hall m (List.mem_cons_of_mem _ (List.mem_flatMap.2 ⟨y, hy, hm⟩))⟩
end
end Go.Proofs.YtclkcipakncjkaaOp
