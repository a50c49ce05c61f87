/- Robin: the document's class, against the same model. Conditions: none. -/
import Derived.Test.YtenpeogkefmclaaRobL
import Derived.Test.YtenpeogkefmclaaTac
set_option linter.all false
set_option linter.deprecated false
namespace Go.Proofs.Ytenpeogkefmclaa
open Go.Sep
variable [B0 : Base]

def rans (l : List Th) : List Int := l.map (·.ran)
def idx (l : List Int) (id : Int) : Option Nat := l.findIdx? fun i => i == id
theorem findIx_idx (l : List Th) (id : Int) : findIx l id = idx (ids l) id := by
  unfold findIx idx ids; rw [List.findIdx?_map]; rfl
theorem idx_at {l : List Int} {id : Int} {k : Nat} (hk : l[k]? = some id) (hb : ∀ j, j < k → l[j]? ≠ some id) : idx l id = some k := by
  have hlt := (List.getElem?_eq_some_iff.1 hk).1
  unfold idx
  rw [List.findIdx?_eq_some_iff_getElem]
  refine ⟨hlt, ?_, fun j hj => ?_⟩
  · rw [(List.getElem?_eq_some_iff.1 hk).2]; simp
  · have := hb j hj
    rw [List.getElem?_eq_getElem (Nat.lt_trans hj hlt)] at this
    simpa using this
theorem idx_no {l : List Int} {id : Int} (hb : ∀ j, j < l.length → l[j]? ≠ some id) : idx l id = none := by
  unfold idx
  rw [List.findIdx?_eq_none_iff]
  intro t ht
  obtain ⟨j, hj⟩ := List.getElem?_of_mem ht
  have := hb j (List.getElem?_eq_some_iff.1 hj).1
  rw [hj] at this; simpa using this

set_option maxHeartbeats 1000000 in
theorem At_ok (p : Nat) (a b v : Value) (is : List Int) (id : Int) (hv : IsSl v is.length) (R : List HP) :
    Called Try.prog 29 [ptr p, int id] (pt p 41 [a, v, b] :: sl 3 1 v (is.map inE) :: R) (Sep.is (int (ixI (idx is id))) (pt p 41 [a, v, b] :: sl 3 1 v (is.map inE) :: R)) := by
  refine Fn2 Try.func29 rfl Try.ntmps29 rfl ?_
  have hN := hv.len
  (repeat' first | refine stp ?_ | intro v' hv' | intro (b : Nat) | refine spl ?_ ?_ | intro hc)
  refine C_loopK [4, 5, 6, 7, 8, 9, 10, 11, 12, 13, 14, 15, 16, 17, 18, 19, 20, 21, 22, 23, 24] (fun k : Nat => is.length - k) (fun k => [(5, int k)]) (fun _ => pt p 41 [a, v, b] :: sl 3 1 v (is.map inE) :: R) (fun k => k ≤ is.length ∧ ∀ j, j < k → is[j]? ≠ some id) 0 ⟨Nat.zero_le _, fun j h => by omega⟩ (by (focus ((repeat (first | exact Keep.nil | apply Keep.drop rfl | apply Keep.keep rfl)); done))) (by (exact sbf)) (fun _ h => h) ?_
  rintro k ⟨hk, hno⟩
  by_cases hlt : k < is.length
  · have hget : (is.map inE)[k]? = some (inE is[k]) := by simp [hlt]
    by_cases he : is[k] = id
    · (repeat' first | refine stp ?_ | intro v' hv' | intro (b : Nat) | refine spl ?_ ?_ | intro hc)
      (refine At_ret1 (by (first | exact .inl rfl | exact .inr rfl)) Try.results29 rfl ⟨by (rw [idx_at (by rw [List.getElem?_eq_getElem hlt, he]) hno]; rfl), rfl⟩ (by (exact frm)))
    · (repeat' first | refine stp ?_ | intro v' hv' | intro (b : Nat) | refine spl ?_ ?_ | intro hc)
      exact At_againK (k + 1) ⟨hlt, fun j hj => by
        rcases Nat.lt_or_eq_of_le (Nat.lt_succ_iff.1 hj) with h | rfl
        · exact hno j h
        · rw [List.getElem?_eq_getElem hlt]; simpa using he⟩ (by omega) (by (exact sbf)) (by (exact sbf)) (by (exact frm))
  · (repeat' first | refine stp ?_ | intro v' hv' | intro (b : Nat) | refine spl ?_ ?_ | intro hc)
    (refine At_ret1 (by (first | exact .inl rfl | exact .inr rfl)) Try.results29 rfl ⟨by (rw [idx_no fun j hj => hno j (by omega)]; rfl), rfl⟩ (by (exact frm)))

/-- p is the document's class, of the same row. -/
def rcl (p : Nat) (c : Cls) : HP := ex fun v => ex fun u => all [fact c.Ok, pt p 41 [int c.q, v, u], sl 3 1 v ((ids c.l).map inE), sl 3 1 u ((rans c.l).map inE)]
theorem rcl_fold {p : Nat} {c : Cls} {v u : Value} {w : World} {R : List HP} (ho : c.Ok) (h : Sat w (pt p 41 [int c.q, v, u] :: sl 3 1 v ((ids c.l).map inE) :: sl 3 1 u ((rans c.l).map inE) :: R)) : Sat w (rcl p c :: R) :=
  Sat.ex_iff.2 ⟨v, Sat.ex_iff.2 ⟨u, Sat.all_iff.2 (Sat.fact_iff.2 ⟨ho, h⟩)⟩⟩
theorem C_rcl {P : Program} {ro : Option Nat} {Q : Exit → Act → World → Prop} {n : Nat} {F : Fr} {ds : List Deferred} {R : List HP} {cd : Code} {p : Nat} {c : Cls}
    (h : ∀ v u, c.Ok → IsSl v c.l.length → IsSl u c.l.length → C P ro cd Q n F ds (pt p 41 [int c.q, v, u] :: sl 3 1 v ((ids c.l).map inE) :: sl 3 1 u ((rans c.l).map inE) :: R)) : C P ro cd Q n F ds (rcl p c :: R) := by
  unfold rcl
  refine C_ex fun v => C_ex_head fun u => ?_
  refine C_sat (fun w h => Sat.all_iff.1 h) ?_
  refine C_fact fun ho => ?_
  exact C_isl (v := v) (by (focus ((repeat (first | assumption | exact Len.of ‹_› | exact .slm | exact .sl | apply Len.there)); done))) fun h1 _ => C_isl (v := u) (by (focus ((repeat (first | assumption | exact Len.of ‹_› | exact .slm | exact .sl | apply Len.there)); done))) fun h2 _ => h v u ho (by simpa [ids] using h1) (by simpa [rans] using h2)
theorem W_rcl {P : Program} {ro : Option Nat} {ops : Array Oper} {Q : Exit → Act → World → Prop} {n : Nat} {F : Fr} {ds : List Deferred} {R : List HP} {cd : List Oper} {p : Nat} {c : Cls}
    (h : ∀ v u, c.Ok → IsSl v c.l.length → IsSl u c.l.length → W P ro none ops Q n cd F ds (pt p 41 [int c.q, v, u] :: sl 3 1 v ((ids c.l).map inE) :: sl 3 1 u ((rans c.l).map inE) :: R)) : W P ro none ops Q n cd F ds (rcl p c :: R) := by
  unfold rcl
  refine W_ex fun v => W_ex fun u => ?_
  refine W_know (p := c.Ok) (fun w h => (Sat.fact_iff.1 (Sat.all_iff.1 h)).1) fun ho => ?_
  refine W_sat (fun w h => (Sat.fact_iff.1 (Sat.all_iff.1 h)).2) ?_
  refine W_know (p := IsSl v c.l.length) (fun w hs => by have := Len.slm.there.out w hs; simpa [ids] using this) fun h1 => ?_
  exact W_know (p := IsSl u c.l.length) (fun w hs => by have := Len.slm.there.there.out w hs; simpa [rans] using this) fun h2 => h v u ho h1 h2
theorem rcl_ok {p : Nat} {c : Cls} {w : World} {R : List HP} (h : Sat w (rcl p c :: R)) : c.Ok := by
  obtain ⟨v, h⟩ := Sat.ex_iff.1 h
  obtain ⟨u, h⟩ := Sat.ex_iff.1 h
  exact (Sat.fact_iff.1 (Sat.all_iff.1 h)).1
attribute [irreducible] rcl
@[simp] theorem ids_length (l : List Th) : (ids l).length = l.length := List.length_map ..
@[simp] theorem rans_length (l : List Th) : (rans l).length = l.length := List.length_map ..

theorem take_erase {α : Type} (l : List α) (at' k : Nat) (hk : k < l.length) : (l.take (k + 1)).eraseIdx at' = if k = at' then (l.take k).eraseIdx at' else (l.take k).eraseIdx at' ++ [l[k]] := by
  have e : l.take (k + 1) = l.take k ++ [l[k]] := by rw [List.take_add_one]; simp [hk]
  have hl : (l.take k).length = k := by rw [List.length_take]; omega
  rw [e]
  rcases Nat.lt_trichotomy at' k with h | h | h
  · rw [if_neg (by omega), List.eraseIdx_append_of_lt_length (by omega)]
  · subst h
    rw [if_pos rfl, List.eraseIdx_append_of_length_le (by omega), hl, Nat.sub_self, List.eraseIdx_cons_zero, List.append_nil, List.eraseIdx_of_length_le (by omega)]
  · rw [if_neg (by omega), List.eraseIdx_append_of_length_le (by omega), List.eraseIdx_of_length_le (l := [l[k]]) (by simp; omega), List.eraseIdx_of_length_le (by omega)]

theorem dropOk {c : Cls} (ho : c.Ok) {k : Nat} (hk : k < c.l.length) : (Cls.mk c.q (c.l.eraseIdx k)).Ok :=
  ⟨ho.1, ho.2.1, by show (c.l.eraseIdx k).length ≤ 64; rw [List.length_eraseIdx_of_lt hk]; have := ho.2.2.1; omega, fun t ht => ho.2.2.2 t (List.mem_of_mem_eraseIdx ht)⟩
theorem dropM_some {c : Cls} {id : Int} {k : Nat} (hf : findIx c.l id = some k) : dropM c id = (⟨c.q, c.l.eraseIdx k⟩, 0) := by unfold dropM; rw [hf]
theorem dropM_none {c : Cls} {id : Int} (hf : findIx c.l id = none) : dropM c id = (c, 14) := by unfold dropM; rw [hf]

set_option maxHeartbeats 2000000 in
theorem RDrop_ok (p : Nat) (c : Cls) (id : Int) (R : List HP) : Called Try.prog 26 [ptr p, int id] (rcl p c :: R) (is (int (dropM c id).2) (rcl p (dropM c id).1 :: R)) := by
  refine Fn2 Try.func26 rfl Try.ntmps26 rfl ?_
  refine C_rcl fun v u ho hv hu => ?_
  have hN := hv.len
  have h64 := ho.2.2.1
  cases hf : findIx c.l id with
  | none =>
    have hi : ixI (idx (ids c.l) id) = -1 := by rw [← findIx_idx, hf]; rfl
    rw [dropM_none hf]
    (repeat' first | refine stp ?_ | intro v' hv' | intro (b : Nat) | (apply w_cq0; rfl; rfl; exact Called.at2 (by (focus ((repeat (first | refine Rep2.here (by (focus ((repeat (first | exact Rep.here | apply Rep.there)); done))) | refine Rep2.other (by (focus ((repeat (first | exact Rep.here | apply Rep.there)); done))) | apply Rep2.there)); done))) (At_ok _ _ _ _ _ _ (by first | assumption | (rw [ids_length]; assumption)))) | refine spl ?_ ?_ | intro hc)
    refine At_ret1 (by (first | exact .inl rfl | exact .inr rfl)) Try.results26 rfl ⟨rfl, rfl⟩ (fun w h => rcl_fold ho h)
  | some a =>
    have hi : ixI (idx (ids c.l) id) = a := by rw [← findIx_idx, hf]; rfl
    obtain ⟨ta, hta, _⟩ := findIx_lt hf
    have ha : a < c.l.length := (List.getElem?_eq_some_iff.1 hta).1
    rw [dropM_some hf]
    (repeat' first | refine stp ?_ | intro v' hv' | intro (b : Nat) | (apply w_cq0; rfl; rfl; exact Called.at2 (by (focus ((repeat (first | refine Rep2.here (by (focus ((repeat (first | exact Rep.here | apply Rep.there)); done))) | refine Rep2.other (by (focus ((repeat (first | exact Rep.here | apply Rep.there)); done))) | apply Rep2.there)); done))) (At_ok _ _ _ _ _ _ (by first | assumption | (rw [ids_length]; assumption)))) | refine spl ?_ ?_ | intro hc)
    refine C_loopK [6, 7, 8, 14, 15, 16, 17, 18, 19, 20, 21, 22, 23, 24, 25, 26, 27, 28, 29, 30, 31, 32, 33, 34, 35, 36, 37, 38, 39, 40, 41, 42, 43, 44, 45] (fun x : Nat × List Int × List Int × Value × Value => c.l.length - x.1) (fun x => [(8, int x.1), (6, x.2.2.2.1), (7, x.2.2.2.2)])
      (fun x => sl 3 1 x.2.2.2.1 (x.2.1.map inE) :: sl 3 1 x.2.2.2.2 (x.2.2.1.map inE) :: pt p 41 [int c.q, v, u] :: sl 3 1 v ((ids c.l).map inE) :: sl 3 1 u ((rans c.l).map inE) :: R)
      (fun x => x.1 ≤ c.l.length ∧ x.2.1 = ids ((c.l.take x.1).eraseIdx a) ∧ x.2.2.1 = rans ((c.l.take x.1).eraseIdx a) ∧ IsSl x.2.2.2.1 x.2.1.length ∧ IsSl x.2.2.2.2 x.2.2.1.length)
      (0, [], [], .slice none 0 0, .slice none 0 0) ⟨Nat.zero_le _, by simp [ids], by simp [rans], IsSl.nil, IsSl.nil⟩ (by (focus ((repeat (first | exact Keep.nil | apply Keep.drop rfl | apply Keep.keep rfl)); done))) (by (exact sbf)) (by (exact nil2)) ?_
    rintro ⟨k, is, rs, v1, v2⟩ ⟨hk, his, hrs, hv1, hv2⟩
    dsimp only [List.cons_append, List.nil_append] at hk his hrs hv1 hv2 ⊢
    have hisl : is.length ≤ 64 := by rw [his, ids_length]; have := List.length_eraseIdx_le (c.l.take k) a; have := List.length_take_le k c.l; omega
    have hrsl : rs.length ≤ 64 := by rw [hrs, rans_length]; have := List.length_eraseIdx_le (c.l.take k) a; have := List.length_take_le k c.l; omega
    by_cases hlt : k < c.l.length
    · have hg1 : ((ids c.l).map inE)[k]? = some (inE c.l[k].id) := by simp [ids, hlt]
      have hg2 : ((rans c.l).map inE)[k]? = some (inE c.l[k].ran) := by simp [rans, hlt]
      have hte := take_erase c.l a k hlt
      by_cases hka : k = a
      · rw [if_pos hka] at hte
        (repeat' first | refine stp ?_ | intro v' hv' | intro (b : Nat) | (apply w_cq0; rfl; rfl; exact Called.at2 (by (focus ((repeat (first | refine Rep2.here (by (focus ((repeat (first | exact Rep.here | apply Rep.there)); done))) | refine Rep2.other (by (focus ((repeat (first | exact Rep.here | apply Rep.there)); done))) | apply Rep2.there)); done))) (At_ok _ _ _ _ _ _ (by first | assumption | (rw [ids_length]; assumption)))) | refine spl ?_ ?_ | intro hc)
        exact At_againK (k + 1, is, rs, v1, v2) ⟨hlt, by rw [hte, ← his], by rw [hte, ← hrs], hv1, hv2⟩ (by show c.l.length - (k + 1) < c.l.length - k; omega) (by (exact sbf)) (by (exact sbf)) (by (exact frm))
      · rw [if_neg hka] at hte
        (repeat' first | refine stp ?_ | intro v' hv' | intro (b : Nat) | (apply w_cq0; rfl; rfl; exact Called.at2 (by (focus ((repeat (first | refine Rep2.here (by (focus ((repeat (first | exact Rep.here | apply Rep.there)); done))) | refine Rep2.other (by (focus ((repeat (first | exact Rep.here | apply Rep.there)); done))) | apply Rep2.there)); done))) (At_ok _ _ _ _ _ _ (by first | assumption | (rw [ids_length]; assumption)))) | refine spl ?_ ?_ | intro hc)
        ((apply w_apM (l2 := [c.l[k].id]); rfl; rfl; rfl; (focus ((repeat (first | exact Del.here | apply Del.there)); done)); ((exact srf)); (intro; rfl); (first | (simp only [List.length_cons, List.length_nil]; omega) | (simp; omega)); (first | (simp only [List.length_cons, List.length_nil]; omega) | (simp; omega))); intro v' hv'; refine ⟨by (exact kmf), ?_⟩)
        (repeat' first | refine stp ?_ | intro v' hv' | intro (b : Nat) | (apply w_cq0; rfl; rfl; exact Called.at2 (by (focus ((repeat (first | refine Rep2.here (by (focus ((repeat (first | exact Rep.here | apply Rep.there)); done))) | refine Rep2.other (by (focus ((repeat (first | exact Rep.here | apply Rep.there)); done))) | apply Rep2.there)); done))) (At_ok _ _ _ _ _ _ (by first | assumption | (rw [ids_length]; assumption)))) | refine spl ?_ ?_ | intro hc)
        ((apply w_apM (l2 := [c.l[k].ran]); rfl; rfl; rfl; (focus ((repeat (first | exact Del.here | apply Del.there)); done)); ((exact srf)); (intro; rfl); (first | (simp only [List.length_cons, List.length_nil]; omega) | (simp; omega)); (first | (simp only [List.length_cons, List.length_nil]; omega) | (simp; omega))); intro v' hv'; refine ⟨by (exact kmf), ?_⟩)
        (repeat' first | refine stp ?_ | intro v' hv' | intro (b : Nat) | (apply w_cq0; rfl; rfl; exact Called.at2 (by (focus ((repeat (first | refine Rep2.here (by (focus ((repeat (first | exact Rep.here | apply Rep.there)); done))) | refine Rep2.other (by (focus ((repeat (first | exact Rep.here | apply Rep.there)); done))) | apply Rep2.there)); done))) (At_ok _ _ _ _ _ _ (by first | assumption | (rw [ids_length]; assumption)))) | refine spl ?_ ?_ | intro hc)
        refine At_againK (k + 1, is ++ [c.l[k].id], rs ++ [c.l[k].ran], _, _) ⟨hlt, by rw [hte]; simp [his, ids], by rw [hte]; simp [hrs, rans], by assumption, by assumption⟩ (by show c.l.length - (k + 1) < c.l.length - k; omega) (by (exact sbf)) (by (exact sbf)) (by (exact frm))
    · obtain rfl : k = c.l.length := by omega
      rw [List.take_length] at his hrs
      subst his hrs
      (repeat' first | refine stp ?_ | intro v' hv' | intro (b : Nat) | (apply w_cq0; rfl; rfl; exact Called.at2 (by (focus ((repeat (first | refine Rep2.here (by (focus ((repeat (first | exact Rep.here | apply Rep.there)); done))) | refine Rep2.other (by (focus ((repeat (first | exact Rep.here | apply Rep.there)); done))) | apply Rep2.there)); done))) (At_ok _ _ _ _ _ _ (by first | assumption | (rw [ids_length]; assumption)))) | refine spl ?_ ?_ | intro hc)
      refine At_ret1 (by (first | exact .inl rfl | exact .inr rfl)) Try.results26 rfl ⟨rfl, rfl⟩ (fun w h => ?_)
      exact rcl_fold (c := ⟨c.q, c.l.eraseIdx a⟩) (dropOk ho ha) (Sel.sat (by (focus ((repeat (first | exact Sel.refl | (apply Sel.cons; (focus ((repeat (first | exact Del.here | apply Del.there)); done))) | refine Sel.drop ?_)); done))) h)

/-- A row that came to be: no thread is there twice, or below nothing. -/
structure Cls.Wf (c : Cls) : Prop where
  nd : (ids c.l).Nodup
  pos : ∀ i ∈ ids c.l, 0 ≤ i
theorem ids_eraseIdx (l : List Th) (k : Nat) : ids (l.eraseIdx k) = (ids l).eraseIdx k := by
  unfold ids
  induction l generalizing k with
  | nil => rfl
  | cons a l ih => cases k with
    | zero => rfl
    | succ k => simp only [List.map_cons, List.eraseIdx_cons_succ, ih]
theorem dropM_Wf {c : Cls} (h : c.Wf) (id : Int) : (dropM c id).1.Wf := by
  unfold dropM
  cases findIx c.l id with
  | none => exact h
  | some k => exact ⟨by show (ids (c.l.eraseIdx k)).Nodup; rw [ids_eraseIdx]; exact h.nd.sublist (List.eraseIdx_sublist ..), fun i hi => h.pos i (by rw [show ids (c.l.eraseIdx k) = (ids c.l).eraseIdx k from ids_eraseIdx ..] at hi; exact List.mem_of_mem_eraseIdx hi)⟩
theorem drop_out {c : Cls} (h : c.Wf) {id : Int} {k : Nat} (hf : findIx c.l id = some k) : id ∉ ids (c.l.eraseIdx k) := by
  rw [ids_eraseIdx]
  obtain ⟨t, ht, hid⟩ := findIx_lt hf
  have hk := (List.getElem?_eq_some_iff.1 ht).1
  have hg : (ids c.l)[k]? = some id := by unfold ids; simp [ht, hid]
  intro hm
  obtain ⟨j, hj⟩ := List.getElem?_of_mem hm
  rw [List.getElem?_eraseIdx] at hj
  have hnd := h.nd
  split at hj
  · rename_i hlt
    have := (List.getElem?_inj (i := j) (j := k) (by have := (List.getElem?_eq_some_iff.1 hj).1; omega) hnd).1 (by rw [hj, hg])
    omega
  · rename_i hlt
    have := (List.getElem?_inj (i := j + 1) (j := k) (by have := (List.getElem?_eq_some_iff.1 hj).1; omega) hnd).1 (by rw [hj, hg])
    omega
theorem findIx_pos {c : Cls} (h : c.Wf) {id : Int} {k : Nat} (hf : findIx c.l id = some k) : 0 ≤ id := by
  obtain ⟨t, ht, hid⟩ := findIx_lt hf
  exact h.pos id (by unfold ids; rw [← hid]; exact List.mem_map_of_mem (List.mem_of_getElem? ht))
theorem yieldM_some {c : Cls} (ho : c.Ok) (h : c.Wf) {id : Int} {k : Nat} (hf : findIx c.l id = some k) : yieldM c id = (⟨c.q, c.l.eraseIdx k ++ [⟨id, 0⟩]⟩, 0) := by
  obtain ⟨t, ht, _⟩ := findIx_lt hf
  have hk := (List.getElem?_eq_some_iff.1 ht).1
  have h64 := ho.2.2.1
  unfold yieldM
  rw [dropM_some hf, if_pos rfl]
  unfold addM
  rw [addGo_one (findIx_pos h hf) (drop_out h hf) (by show (c.l.eraseIdx k).length < 64; rw [List.length_eraseIdx_of_lt hk]; omega)]
theorem yieldM_none {c : Cls} {id : Int} (hf : findIx c.l id = none) : yieldM c id = (c, 14) := by
  unfold yieldM; rw [dropM_none hf]; rfl
theorem yieldOk {c : Cls} (ho : c.Ok) {k : Nat} (hk : k < c.l.length) (id : Int) : (Cls.mk c.q (c.l.eraseIdx k ++ [⟨id, 0⟩])).Ok := by
  refine ⟨ho.1, ho.2.1, ?_, fun t ht => ?_⟩
  · show (c.l.eraseIdx k ++ [_]).length ≤ 64
    rw [List.length_append, List.length_eraseIdx_of_lt hk]; have := ho.2.2.1; simp; omega
  · rcases List.mem_append.1 ht with h | h
    · exact ho.2.2.2 t (List.mem_of_mem_eraseIdx h)
    · rw [List.mem_singleton] at h; subst h; exact ⟨Int.le_refl _, by show (0 : Int) ≤ c.q; have := ho.1; omega⟩

set_option maxHeartbeats 2000000 in
theorem RYield_ok (p : Nat) (c : Cls) (id : Int) (h : c.Wf) (R : List HP) : Called Try.prog 28 [ptr p, int id] (rcl p c :: R) (is (int (yieldM c id).2) (rcl p (yieldM c id).1 :: R)) := by
  refine Called.know (p := c.Ok) (fun w hs => rcl_ok hs) fun ho => ?_
  refine Fn2 Try.func28 rfl Try.ntmps28 rfl ?_
  cases hf : findIx c.l id with
  | none =>
    rw [yieldM_none hf]
    have hd := RDrop_ok p c id
    rw [dropM_none hf] at hd
    (repeat' first | refine stp ?_ | intro v' hv' | intro (b : Nat) | refine spl ?_ ?_ | intro hc)
    (refine At_ret1 (by (first | exact .inl rfl | exact .inr rfl)) Try.results28 rfl ⟨by rfl, rfl⟩ (by (exact frm)))
  | some k =>
    obtain ⟨t, ht, _⟩ := findIx_lt hf
    have hk := (List.getElem?_eq_some_iff.1 ht).1
    rw [yieldM_some ho h hf]
    have hd := RDrop_ok p c id
    rw [dropM_some hf] at hd
    have h64 : (c.l.eraseIdx k).length ≤ 63 := by rw [List.length_eraseIdx_of_lt hk]; have := ho.2.2.1; omega
    (repeat' first | refine stp ?_ | intro v' hv' | intro (b : Nat) | refine spl ?_ ?_ | intro hc)
    refine W_rcl fun v u ho' hv hu => ?_
    dsimp only at hv hu ⊢
    (repeat' first | refine stp ?_ | intro v' hv' | intro (b : Nat) | refine spl ?_ ?_ | intro hc)
    ((apply w_apM (l2 := [id]); rfl; rfl; rfl; (focus ((repeat (first | exact Del.here | apply Del.there)); done)); ((exact srf)); (intro; rfl); (first | (simp only [List.length_cons, List.length_nil]; omega) | (simp; omega)); (first | (simp only [List.length_cons, List.length_nil]; omega) | (simp; omega))); intro v' hv'; refine ⟨by (exact kmf), ?_⟩)
    (repeat' first | refine stp ?_ | intro v' hv' | intro (b : Nat) | refine spl ?_ ?_ | intro hc)
    ((apply w_apM (l2 := [(0 : Int)]); rfl; rfl; rfl; (focus ((repeat (first | exact Del.here | apply Del.there)); done)); ((exact srf)); (intro; rfl); (first | (simp only [List.length_cons, List.length_nil]; omega) | (simp; omega)); (first | (simp only [List.length_cons, List.length_nil]; omega) | (simp; omega))); intro v' hv'; refine ⟨by (exact kmf), ?_⟩)
    (repeat' first | refine stp ?_ | intro v' hv' | intro (b : Nat) | refine spl ?_ ?_ | intro hc)
    refine At_ret1 (by (first | exact .inl rfl | exact .inr rfl)) Try.results28 rfl ⟨rfl, rfl⟩ (fun w hs => ?_)
    apply rcl_fold (yieldOk ho hk id)
    rw [show ids (c.l.eraseIdx k ++ [⟨id, 0⟩]) = ids (c.l.eraseIdx k) ++ [id] from List.map_append .., show rans (c.l.eraseIdx k ++ [⟨id, 0⟩]) = rans (c.l.eraseIdx k) ++ [0] from List.map_append ..]
    exact Sel.sat (by (focus ((repeat (first | exact Sel.refl | (apply Sel.cons; (focus ((repeat (first | exact Del.here | apply Del.there)); done))) | refine Sel.drop ?_)); done))) hs

theorem rans_fresh (is : List Int) : rans (fresh is) = List.replicate is.length 0 := by
  unfold rans fresh; rw [List.map_map]; induction is with
  | nil => rfl
  | cons a l ih => rw [List.map_cons, ih]; rfl
theorem addM_err {c : Cls} {is : List Int} {e : Int} (h : addGo c.l is = .error e) : addM c is = (c, e) := by unfold addM; rw [h]
theorem addM_ok {c : Cls} {is : List Int} {l : List Th} (h : addGo c.l is = .ok l) : addM c is = (⟨c.q, l⟩, 0) := by unfold addM; rw [h]
theorem freshOk {c : Cls} (ho : c.Ok) {is : List Int} (h : (c.l ++ fresh is).length ≤ 64) : (Cls.mk c.q (c.l ++ fresh is)).Ok := by
  refine ⟨ho.1, ho.2.1, h, fun t ht => ?_⟩
  rcases List.mem_append.1 ht with h | h
  · exact ho.2.2.2 t h
  · obtain ⟨i, _, rfl⟩ := List.mem_map.1 h; exact ⟨Int.le_refl _, by show (0 : Int) ≤ c.q; have := ho.1; omega⟩

set_option maxHeartbeats 4000000 in
theorem RAdd_ok (p : Nat) (c : Cls) (s : Value) (is : List Int) (h : c.Wf) (hs : IsSl s is.length) (R : List HP) (hsrc : Src R s 1 (is.map inE)) :
    Called Try.prog 25 [ptr p, s] (rcl p c :: R) (Sep.is (int (addM c is).2) (rcl p (addM c is).1 :: R)) := by
  refine Fn2 Try.func25 rfl Try.ntmps25 rfl ?_
  refine C_rcl fun v u ho hv hu => ?_
  have hN := hs.len
  have h64 := ho.2.2.1
  have hfail : ∀ e w, addGo c.l is = .error e → Sat w (pt p 41 [int c.q, v, u] :: sl 3 1 v ((ids c.l).map inE) :: sl 3 1 u ((rans c.l).map inE) :: R) → Sat w (rcl p (addM c is).1 :: R) := fun e w he hw => by
    rw [addM_err he]; exact rcl_fold ho hw
  have hfail2 : ∀ e, addGo c.l is = .error e → (addM c is).2 = e := fun e he => by rw [addM_err he]
  refine C_sat (L' := sl 3 1 (.slice none 0 0) (([] : List Int).map inE) :: pt p 41 [int c.q, v, u] :: sl 3 1 v ((ids c.l).map inE) :: sl 3 1 u ((rans c.l).map inE) :: R) (fun w h => Sat.sl_nil h) ?_
  have hsrc' : ∀ A B C D E, Src (A :: B :: C :: D :: E :: R) s 1 (is.map inE) := fun _ _ _ _ _ => hsrc.there.there.there.there.there
  (repeat' first | refine stp ?_ | intro v' hv' | intro (b : Nat) | (apply w_cq0; rfl; rfl; exact Called.at2 (by (focus ((repeat (first | refine Rep2.here (by (focus ((repeat (first | exact Rep.here | apply Rep.there)); done))) | refine Rep2.other (by (focus ((repeat (first | exact Rep.here | apply Rep.there)); done))) | apply Rep2.there)); done))) (At_ok _ _ _ _ _ _ (by first | assumption | (rw [ids_length]; assumption)))) | refine spl ?_ ?_ | intro hc)
  ((apply w_apM (l2 := (ids c.l)); rfl; rfl; rfl; (focus ((repeat (first | exact Del.here | apply Del.there)); done)); ((exact srf)); (intro; rfl); (first | (simp only [List.length_cons, List.length_nil]; omega) | (simp; omega)); (first | (simp only [List.length_cons, List.length_nil]; omega) | (simp; omega))); intro v' hv'; refine ⟨by (exact kmf), ?_⟩)
  (repeat' first | refine stp ?_ | intro v' hv' | intro (b : Nat) | (apply w_cq0; rfl; rfl; exact Called.at2 (by (focus ((repeat (first | refine Rep2.here (by (focus ((repeat (first | exact Rep.here | apply Rep.there)); done))) | refine Rep2.other (by (focus ((repeat (first | exact Rep.here | apply Rep.there)); done))) | apply Rep2.there)); done))) (At_ok _ _ _ _ _ _ (by first | assumption | (rw [ids_length]; assumption)))) | refine spl ?_ ?_ | intro hc)
  refine C_loopK [4, 6, 21, 22, 23, 24, 25, 26, 27, 28, 29, 30, 31, 32, 33, 34, 35, 36, 37, 38, 39, 40, 41, 42, 43, 44, 45, 46, 47, 48, 49, 50, 51, 52, 53, 54, 55, 56, 57] (fun x : Nat × List Th × Value => is.length - x.1) (fun x => [(6, int x.1)])
    (fun x => pt b 41 [int 0, x.2.2, .slice none 0 0] :: sl 3 1 x.2.2 ((ids x.2.1).map inE) :: pt p 41 [int c.q, v, u] :: sl 3 1 v ((ids c.l).map inE) :: sl 3 1 u ((rans c.l).map inE) :: R)
    (fun x => x.1 ≤ is.length ∧ x.2.1.length ≤ 64 ∧ addGo c.l is = addGo x.2.1 (is.drop x.1) ∧ IsSl x.2.2 x.2.1.length)
    (0, c.l, _) ⟨Nat.zero_le _, h64, rfl, by simpa using hv'⟩ (by (focus ((repeat (first | exact Keep.nil | apply Keep.drop rfl | apply Keep.keep rfl)); done))) (by (exact sbf)) (by (exact frm)) ?_
  rintro ⟨k, l, v1⟩ ⟨hk, hl, hgo, hv1⟩
  dsimp only [List.cons_append, List.nil_append] at hk hl hgo hv1 ⊢
  by_cases hlt : k < is.length
  · have hld : Rd R ⟨vb s, vo s + k * 1, none⟩ (int is[k]) := Rd.src (e := inE is[k]) (k := 0) hsrc (by simp [hlt]) rfl
    rw [List.drop_eq_getElem_cons hlt, addGo, findIx_idx] at hgo
    by_cases h1 : is[k] < 0
    · rw [if_pos h1] at hgo
      (repeat' first | refine stp ?_ | intro v' hv' | intro (b : Nat) | (apply w_cq0; rfl; rfl; exact Called.at2 (by (focus ((repeat (first | refine Rep2.here (by (focus ((repeat (first | exact Rep.here | apply Rep.there)); done))) | refine Rep2.other (by (focus ((repeat (first | exact Rep.here | apply Rep.there)); done))) | apply Rep2.there)); done))) (At_ok _ _ _ _ _ _ (by first | assumption | (rw [ids_length]; assumption)))) | refine spl ?_ ?_ | intro hc)
      exact At_ret1 (by (first | exact .inl rfl | exact .inr rfl)) Try.results25 rfl ⟨by rw [hfail2 _ hgo], rfl⟩ (fun w h => hfail _ w hgo (Sel.sat (by (focus ((repeat (first | exact Sel.refl | (apply Sel.cons; (focus ((repeat (first | exact Del.here | apply Del.there)); done))) | refine Sel.drop ?_)); done))) h))
    · rw [if_neg h1] at hgo
      by_cases h2 : (idx (ids l) is[k]).isSome = true
      · rw [if_pos h2] at hgo
        have hx : 0 ≤ ixI (idx (ids l) is[k]) := by rw [← findIx_idx] at h2 ⊢; exact ixI_some h2
        (repeat' first | refine stp ?_ | intro v' hv' | intro (b : Nat) | (apply w_cq0; rfl; rfl; exact Called.at2 (by (focus ((repeat (first | refine Rep2.here (by (focus ((repeat (first | exact Rep.here | apply Rep.there)); done))) | refine Rep2.other (by (focus ((repeat (first | exact Rep.here | apply Rep.there)); done))) | apply Rep2.there)); done))) (At_ok _ _ _ _ _ _ (by first | assumption | (rw [ids_length]; assumption)))) | refine spl ?_ ?_ | intro hc)
        exact At_ret1 (by (first | exact .inl rfl | exact .inr rfl)) Try.results25 rfl ⟨by rw [hfail2 _ hgo], rfl⟩ (fun w h => hfail _ w hgo (Sel.sat (by (focus ((repeat (first | exact Sel.refl | (apply Sel.cons; (focus ((repeat (first | exact Del.here | apply Del.there)); done))) | refine Sel.drop ?_)); done))) h))
      · rw [if_neg h2] at hgo
        have hx : ixI (idx (ids l) is[k]) < 0 := by rw [← findIx_idx] at h2 ⊢; exact ixI_none h2
        by_cases h3 : 64 ≤ l.length
        · rw [if_pos h3] at hgo
          (repeat' first | refine stp ?_ | intro v' hv' | intro (b : Nat) | (apply w_cq0; rfl; rfl; exact Called.at2 (by (focus ((repeat (first | refine Rep2.here (by (focus ((repeat (first | exact Rep.here | apply Rep.there)); done))) | refine Rep2.other (by (focus ((repeat (first | exact Rep.here | apply Rep.there)); done))) | apply Rep2.there)); done))) (At_ok _ _ _ _ _ _ (by first | assumption | (rw [ids_length]; assumption)))) | refine spl ?_ ?_ | intro hc)
          exact At_ret1 (by (first | exact .inl rfl | exact .inr rfl)) Try.results25 rfl ⟨by rw [hfail2 _ hgo], rfl⟩ (fun w h => hfail _ w hgo (Sel.sat (by (focus ((repeat (first | exact Sel.refl | (apply Sel.cons; (focus ((repeat (first | exact Del.here | apply Del.there)); done))) | refine Sel.drop ?_)); done))) h))
        · rw [if_neg h3] at hgo
          (repeat' first | refine stp ?_ | intro v' hv' | intro (b : Nat) | (apply w_cq0; rfl; rfl; exact Called.at2 (by (focus ((repeat (first | refine Rep2.here (by (focus ((repeat (first | exact Rep.here | apply Rep.there)); done))) | refine Rep2.other (by (focus ((repeat (first | exact Rep.here | apply Rep.there)); done))) | apply Rep2.there)); done))) (At_ok _ _ _ _ _ _ (by first | assumption | (rw [ids_length]; assumption)))) | refine spl ?_ ?_ | intro hc)
          ((apply w_apM (l2 := [is[k]]); rfl; rfl; rfl; (focus ((repeat (first | exact Del.here | apply Del.there)); done)); ((exact srf)); (intro; rfl); (first | (simp only [List.length_cons, List.length_nil]; omega) | (simp; omega)); (first | (simp only [List.length_cons, List.length_nil]; omega) | (simp; omega))); intro v' hv'; refine ⟨by (exact kmf), ?_⟩)
          (repeat' first | refine stp ?_ | intro v' hv' | intro (b : Nat) | (apply w_cq0; rfl; rfl; exact Called.at2 (by (focus ((repeat (first | refine Rep2.here (by (focus ((repeat (first | exact Rep.here | apply Rep.there)); done))) | refine Rep2.other (by (focus ((repeat (first | exact Rep.here | apply Rep.there)); done))) | apply Rep2.there)); done))) (At_ok _ _ _ _ _ _ (by first | assumption | (rw [ids_length]; assumption)))) | refine spl ?_ ?_ | intro hc)
          refine At_againK (k + 1, l ++ [⟨is[k], 0⟩], v') ⟨hlt, by show (l ++ [_]).length ≤ 64; simp; omega, hgo, by show IsSl v' (l ++ [_]).length; simpa using hv'⟩ (by show is.length - (k + 1) < is.length - k; omega) (by (exact sbf)) (by (exact sbf)) ?_
          dsimp only
          rw [show ids (l ++ [⟨is[k], 0⟩]) = ids l ++ [is[k]] from List.map_append ..]
          (exact frm)
  · obtain rfl : k = is.length := by omega
    rw [List.drop_length, addGo] at hgo
    obtain ⟨hl1, _, hl2, _⟩ := addGo_ok hgo h.nd h64
    subst hl1
    rw [addM_ok hgo]
    have hlen : (c.l ++ fresh is).length = c.l.length + is.length := by simp [fresh]
    rw [hlen] at hl hv1
    (repeat' first | refine stp ?_ | intro v' hv' | intro (b : Nat) | (apply w_cq0; rfl; rfl; exact Called.at2 (by (focus ((repeat (first | refine Rep2.here (by (focus ((repeat (first | exact Rep.here | apply Rep.there)); done))) | refine Rep2.other (by (focus ((repeat (first | exact Rep.here | apply Rep.there)); done))) | apply Rep2.there)); done))) (At_ok _ _ _ _ _ _ (by first | assumption | (rw [ids_length]; assumption)))) | refine spl ?_ ?_ | intro hc)
    refine C_loopK [65, 66, 67, 68, 69, 70, 71, 72, 73, 74, 75, 76, 77, 78, 79, 80, 81, 82, 83, 84] (fun x : Nat × Value => is.length - x.1) (fun x => [])
      (fun x => pt p 41 [int c.q, v1, x.2] :: sl 3 1 v1 ((ids (c.l ++ fresh is)).map inE) :: sl 3 1 x.2 ((rans c.l ++ List.replicate x.1 0).map inE) :: R)
      (fun x => x.1 ≤ is.length ∧ IsSl x.2 (c.l.length + x.1)) (0, u) ⟨Nat.zero_le _, hu⟩ (by (focus ((repeat (first | exact Keep.nil | apply Keep.drop rfl | apply Keep.keep rfl)); done))) (by (exact sbf)) (by rw [List.replicate_zero, List.append_nil]; (exact frm)) ?_
    rintro ⟨j, u1⟩ ⟨hj, hu1⟩
    dsimp only [List.cons_append, List.nil_append] at hj hu1 ⊢
    by_cases hlt : j < is.length
    · (repeat' first | refine stp ?_ | intro v' hv' | intro (b : Nat) | (apply w_cq0; rfl; rfl; exact Called.at2 (by (focus ((repeat (first | refine Rep2.here (by (focus ((repeat (first | exact Rep.here | apply Rep.there)); done))) | refine Rep2.other (by (focus ((repeat (first | exact Rep.here | apply Rep.there)); done))) | apply Rep2.there)); done))) (At_ok _ _ _ _ _ _ (by first | assumption | (rw [ids_length]; assumption)))) | refine spl ?_ ?_ | intro hc)
      ((apply w_apM (l2 := [(0 : Int)]); rfl; rfl; rfl; (focus ((repeat (first | exact Del.here | apply Del.there)); done)); ((exact srf)); (intro; rfl); (first | (simp only [List.length_cons, List.length_nil]; omega) | (simp; omega)); (first | (simp only [List.length_cons, List.length_nil]; omega) | (simp; omega))); intro v' hv'; refine ⟨by (exact kmf), ?_⟩)
      (repeat' first | refine stp ?_ | intro v' hv' | intro (b : Nat) | (apply w_cq0; rfl; rfl; exact Called.at2 (by (focus ((repeat (first | refine Rep2.here (by (focus ((repeat (first | exact Rep.here | apply Rep.there)); done))) | refine Rep2.other (by (focus ((repeat (first | exact Rep.here | apply Rep.there)); done))) | apply Rep2.there)); done))) (At_ok _ _ _ _ _ _ (by first | assumption | (rw [ids_length]; assumption)))) | refine spl ?_ ?_ | intro hc)
      refine At_againK (j + 1, v') ⟨hlt, by simpa [Nat.add_assoc] using hv'⟩ (by show is.length - (j + 1) < is.length - j; omega) (by (exact sbf)) (by (exact sbf)) ?_
      dsimp only
      rw [List.replicate_succ', ← List.append_assoc]
      (exact frm)
    · obtain rfl : j = is.length := by omega
      (repeat' first | refine stp ?_ | intro v' hv' | intro (b : Nat) | (apply w_cq0; rfl; rfl; exact Called.at2 (by (focus ((repeat (first | refine Rep2.here (by (focus ((repeat (first | exact Rep.here | apply Rep.there)); done))) | refine Rep2.other (by (focus ((repeat (first | exact Rep.here | apply Rep.there)); done))) | apply Rep2.there)); done))) (At_ok _ _ _ _ _ _ (by first | assumption | (rw [ids_length]; assumption)))) | refine spl ?_ ?_ | intro hc)
      refine At_ret1 (by (first | exact .inl rfl | exact .inr rfl)) Try.results25 rfl ⟨rfl, rfl⟩ (fun w h => ?_)
      apply rcl_fold (freshOk ho (by rw [hlen]; exact hl))
      rw [show rans (c.l ++ fresh is) = rans c.l ++ List.replicate is.length 0 by rw [← rans_fresh]; exact List.map_append ..]
      exact Sel.sat (by (focus ((repeat (first | exact Sel.refl | (apply Sel.cons; (focus ((repeat (first | exact Del.here | apply Del.there)); done))) | refine Sel.drop ?_)); done))) h
end Go.Proofs.Ytenpeogkefmclaa
