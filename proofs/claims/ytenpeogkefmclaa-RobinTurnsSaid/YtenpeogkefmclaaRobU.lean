/- Robin's law: same; a row behind calls. Conditions: none. -/
import Derived.Test.YtenpeogkefmclaaRobT
set_option linter.all false
set_option linter.deprecated false
namespace Go.Proofs.Ytenpeogkefmclaa
open Go.Sep
variable [B0 : Base]

theorem firstM_ge {c : Cls} {n : Int} (h : (c.l.length : Int) ≤ n) : firstM c n = ids c.l := by
  unfold firstM ids
  rw [List.take_of_length_le]
  rw [List.length_map]; omega

set_option maxHeartbeats 4000000 in
theorem same_ok (p r : Nat) (c : Cls) (hw : c.Wf) (R : List HP) :
    Called Try.prog 21 [ptr p, ptr r] (cls p c :: rcl r c :: R) (is (.bool true) (cls p c :: rcl r c :: R)) := by
  refine Called.know (p := c.Ok) (fun w hs => let ⟨_, h, _⟩ := cls_open hs; h) fun hok => ?_
  refine Fn2 Try.func21 rfl Try.ntmps21 rfl ?_
  refine C_sat (L' := rcl r c :: cls p c :: R) (fun w hs => hs.perm (.swap ..)) (C_rcl fun v u _ hv hu => ?_)
  have hN := hv.len
  have h64 := hok.2.2.1
  have hq1 := hok.1
  have hq2 := hok.2.1
  have hL := Len_ok p c
  have hF : ∀ R, Called Try.prog 13 [ptr p, int (c.l.length + 1)] (cls p c :: R) (retSl 3 1 ((ids c.l).map inE) (cls p c :: R)) := fun R => by
    have := First_ok p c (c.l.length + 1) R
    rwa [firstM_ge (by omega)] at this
  (repeat' first | refine C_drawI (id := 1) [0, 2, 3, 4, 5, 6, 1, 7, 8, 9, 10, 11, 12, 13, 14, 15, 17, 18, 19, 20, 16, 21, 22, 23] (by kernel_rfl) (by kernel_rfl) (by kernel_rfl) rfl ?_ | refine stp ?_ | intro v' hv' | intro (b : Nat) | (apply w_cq; rfl; rfl; exact ints_eq _ _ (ids c.l) _ (by first | assumption | (rw [ids_length]; assumption)) (by first | assumption | (rw [ids_length]; assumption)) (by (exact srf)) (by (exact srf))) | refine spl ?_ ?_ | intro hc)
  refine C_loopK [4, 5, 6, 7, 32, 33, 34, 35, 36, 37, 38, 39, 40, 41, 42, 43, 44, 45, 46, 47, 48, 49, 50, 51, 52, 53, 54, 55, 56, 57, 58, 59, 60, 61, 62, 63, 64, 65, 66, 67, 68, 69, 70] (fun k : Nat => c.l.length - k) (fun k => [(5, int k)]) (fun _ => cls p c :: pt r 41 [int c.q, v, u] :: sl 3 1 v ((ids c.l).map inE) :: sl 3 1 u ((rans c.l).map inE) :: R) (fun k => k ≤ c.l.length) 0 (Nat.zero_le _) (by (focus ((repeat (first | exact Keep.nil | apply Keep.drop rfl | apply Keep.keep rfl)); done))) (by (exact sbf)) (by (exact frm)) ?_
  intro k hk
  dsimp only [List.cons_append, List.nil_append]
  clear hF
  by_cases hlt : k < c.l.length
  · have ht : c.l[k]? = some c.l[k] := by simp [hlt]
    obtain ⟨hr0, hr1⟩ := hok.2.2.2 _ (List.getElem_mem hlt)
    have hg1 : ((ids c.l).map inE)[k]? = some [int c.l[k].id] := by simp [ids, inE, hlt]
    have hg : ((rans c.l).map inE)[k]? = some [int c.l[k].ran] := by simp [rans, inE, hlt]
    have hA := Left_ok p c c.l[k].id
    rw [show leftV c c.l[k].id = (c.q - c.l[k].ran, 0) from leftV_at (q := c.q) hw.nd ht] at hA
    (repeat' first | refine C_drawI (id := 1) [0, 2, 3, 4, 5, 6, 1, 7, 8, 9, 10, 11, 12, 13, 14, 15, 17, 18, 19, 20, 16, 21, 22, 23] (by kernel_rfl) (by kernel_rfl) (by kernel_rfl) rfl ?_ | refine stp ?_ | intro v' hv' | intro (b : Nat) | (apply w_cq; rfl; rfl; exact ints_eq _ _ (ids c.l) _ (by first | assumption | (rw [ids_length]; assumption)) (by first | assumption | (rw [ids_length]; assumption)) (by (exact srf)) (by (exact srf))) | refine spl ?_ ?_ | intro hc)
    exact At_againK (k + 1) hlt (by omega) (by (exact sbf)) (by (exact sbf)) (by (exact frm))
  · (repeat' first | refine C_drawI (id := 1) [0, 2, 3, 4, 5, 6, 1, 7, 8, 9, 10, 11, 12, 13, 14, 15, 17, 18, 19, 20, 16, 21, 22, 23] (by kernel_rfl) (by kernel_rfl) (by kernel_rfl) rfl ?_ | refine stp ?_ | intro v' hv' | intro (b : Nat) | (apply w_cq; rfl; rfl; exact ints_eq _ _ (ids c.l) _ (by first | assumption | (rw [ids_length]; assumption)) (by first | assumption | (rw [ids_length]; assumption)) (by (exact srf)) (by (exact srf))) | refine spl ?_ ?_ | intro hc)
    exact At_ret1 (by (first | exact .inl rfl | exact .inr rfl)) Try.results21 rfl ⟨rfl, rfl⟩ (fun w h => (rcl_fold (R := cls p c :: R) hok (Sel.sat (by (focus ((repeat (first | exact Sel.refl | (apply Sel.cons; (focus ((repeat (first | exact Del.here | apply Del.there)); done))) | refine Sel.drop ?_)); done))) h)).perm (.swap ..))

/-- A row behind calls. -/
def runs (c : Cls) (ops : List OpM) : Cls := ops.foldl opM c
theorem runs_take (c : Cls) (ops : List OpM) {k : Nat} (h : k < ops.length) : runs c (ops.take (k + 1)) = opM (runs c (ops.take k)) ops[k] := by
  have e : ops.take (k + 1) = ops.take k ++ [ops[k]] := by rw [List.take_add_one]; simp [h]
  rw [e]; unfold runs; rw [List.foldl_append]; rfl
theorem addM_Wf {c : Cls} (ho : c.l.length ≤ 64) (h : c.Wf) (is : List Int) : (addM c is).1.Wf ∧ (addM c is).1.l.length ≤ 64 := by
  cases ha : addGo c.l is with
  | error e => rw [addM_err ha]; exact ⟨h, ho⟩
  | ok l =>
    rw [addM_ok ha]
    obtain ⟨hl, hn, h64, hp⟩ := addGo_ok ha h.nd ho
    refine ⟨⟨hn, fun i hi => ?_⟩, h64⟩
    rw [show (Cls.mk c.q l).l = l from rfl, hl, show ids (c.l ++ fresh is) = ids c.l ++ ids (fresh is) from List.map_append .., ids_fresh] at hi
    rcases List.mem_append.1 hi with hi | hi
    · exact h.pos i hi
    · exact hp i hi
theorem dropM_len {c : Cls} (id : Int) : (dropM c id).1.l.length ≤ c.l.length := by
  unfold dropM
  cases findIx c.l id with
  | none => exact Nat.le_refl _
  | some k => exact List.length_eraseIdx_le ..
theorem yieldM_Wf {c : Cls} (ho : c.l.length ≤ 64) (h : c.Wf) (id : Int) : (yieldM c id).1.Wf ∧ (yieldM c id).1.l.length ≤ 64 := by
  unfold yieldM
  have h1 := dropM_Wf h id
  have h2 : (dropM c id).1.l.length ≤ 64 := Nat.le_trans (dropM_len id) ho
  split
  · exact addM_Wf h2 h1 _
  · exact ⟨h1, h2⟩
theorem runM_Wf {c : Cls} (ho : c.l.length ≤ 64) (h : c.Wf) (id x : Int) : (runM c id x).1.Wf ∧ (runM c id x).1.l.length ≤ 64 := by
  cases hf : findIx c.l id with
  | none => rw [runM_none hf]; exact ⟨h, ho⟩
  | some k =>
    obtain ⟨t, ht, _⟩ := findIx_lt hf
    rw [runM_some hf ht]
    have h1 := setWf h ht (t.ran + x)
    have h2 : (Cls.mk c.q (c.l.set k ⟨t.id, t.ran + x⟩)).l.length ≤ 64 := by simpa using ho
    split
    · exact ⟨h, ho⟩
    · split
      · exact yieldM_Wf h2 h1 id
      · exact ⟨h1, h2⟩
theorem opM_Wf {c : Cls} (ho : c.l.length ≤ 64) (h : c.Wf) (o : OpM) : (opM c o).Wf ∧ (opM c o).l.length ≤ 64 := by
  unfold opM
  split
  · exact addM_Wf ho h _
  · split
    · exact ⟨dropM_Wf h _, Nat.le_trans (dropM_len _) ho⟩
    · split
      · exact runM_Wf ho h _ _
      · split
        · exact yieldM_Wf ho h _
        · exact ⟨h, ho⟩
theorem runs_Wf {ops : List OpM} : ∀ {c : Cls}, c.l.length ≤ 64 → c.Wf → (runs c ops).Wf ∧ (runs c ops).l.length ≤ 64 := by
  induction ops with
  | nil => intro c ho h; exact ⟨h, ho⟩
  | cons o ops ih => intro c ho h; obtain ⟨h1, h2⟩ := opM_Wf ho h o; exact ih h2 h1
theorem wf0 {q : Int} : (Cls.mk q []).Wf := ⟨List.nodup_nil, fun i hi => by cases hi⟩
end Go.Proofs.Ytenpeogkefmclaa
