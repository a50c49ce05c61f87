/- Robin's law: the calls that come in, few, does, same. Conditions: none. -/
import Derived.Test.YtenpeogkefmclaaRobS
set_option linter.all false
set_option linter.deprecated false
namespace Go.Proofs.Ytenpeogkefmclaa
open Go.Sep
variable [B0 : Base]

/-- A call that came in. -/
structure OpM where
  ask : Int
  id : Int
  n : Int
  lv : Value
  ks : List Int
def opE (o : OpM) : List Value := [int o.ask, int o.id, int o.n, o.lv]
/-- It lies in R. -/
structure OpIn (R : List HP) (o : OpM) : Prop where
  n : -9223372036854775808 ≤ o.n ∧ o.n ≤ 9223372036854775807
  isl : IsSl o.lv o.ks.length
  src : Src R o.lv 1 (o.ks.map inE)
structure OpsIn (R : List HP) (l : Value) (ops : List OpM) : Prop where
  isl : IsSl l ops.length
  src : Src R l 4 (ops.map opE)
  each : ∀ o ∈ ops, OpIn R o

def fewB (ops : List OpM) : Bool := ops.all (fun o => decide (o.ks.length ≤ 80)) && decide (ops.length ≤ 40)

theorem Rd.opsL {R : List HP} {l : Value} {ops : List OpM} (h : OpsIn R l ops) {k : Nat} (hk : k < ops.length) : Rd R ⟨vb l, vo l + k * 4 + 3, none⟩ ops[k].lv :=
  Rd.src h.src (i := k) (k := 3) (e := opE ops[k]) (by simp [hk]) rfl

set_option maxHeartbeats 1000000 in
theorem few_ok (l : Value) (ops : List OpM) (R : List HP) (h : OpsIn R l ops) :
    Called Try.prog 16 [l] R (is (.bool (fewB ops)) R) := by
  refine Fn1 Try.func16 rfl Try.ntmps16 rfl ?_
  have hl := h.isl
  have hN := hl.len
  (repeat' first | refine stp ?_ | intro v' hv' | intro (b : Nat) | refine spl ?_ ?_ | intro hc)
  refine C_loopK [2, 3, 4, 5, 6, 7, 8, 9, 10, 11, 12, 13, 14, 15, 16] (fun k : Nat => ops.length - k) (fun k => [(3, int k)]) (fun _ => R) (fun k => k ≤ ops.length ∧ ∀ o ∈ ops.take k, o.ks.length ≤ 80) 0 ⟨Nat.zero_le _, by simp⟩ (by (focus ((repeat (first | exact Keep.nil | apply Keep.drop rfl | apply Keep.keep rfl)); done))) (by (exact sbf)) (by (exact frm)) ?_
  rintro k ⟨hk, hall⟩
  dsimp only [List.cons_append, List.nil_append]
  by_cases hlt : k < ops.length
  · have hrd := Rd.opsL h hlt
    have ho := h.each _ (List.getElem_mem hlt)
    have hol := ho.isl
    have hte : ops.take (k + 1) = ops.take k ++ [ops[k]] := by rw [List.take_add_one]; simp [hlt]
    by_cases h80 : ops[k].ks.length ≤ 80
    · (repeat' first | refine stp ?_ | intro v' hv' | intro (b : Nat) | refine spl ?_ ?_ | intro hc)
      exact At_againK (k + 1) ⟨hlt, by rw [hte]; intro o ho; rcases List.mem_append.1 ho with h | h; exact hall o h; rw [List.mem_singleton] at h; rw [h]; exact h80⟩ (by omega) (by (exact sbf)) (by (exact sbf)) (by (exact frm))
    · (repeat' first | refine stp ?_ | intro v' hv' | intro (b : Nat) | refine spl ?_ ?_ | intro hc)
      have : fewB ops = false := by
        unfold fewB
        rw [List.all_eq_false.2 ⟨ops[k], List.getElem_mem hlt, by simp; omega⟩]; rfl
      (refine At_ret1 (by (first | exact .inl rfl | exact .inr rfl)) Try.results16 rfl ⟨by rw [this], rfl⟩ (by (exact frm)))
  · obtain rfl : k = ops.length := by omega
    rw [List.take_length] at hall
    have : fewB ops = decide (ops.length ≤ 40) := by
      unfold fewB
      rw [List.all_eq_true.2 (fun o ho => by simp; exact hall o ho)]; rfl
    (repeat' first | refine stp ?_ | intro v' hv' | intro (b : Nat) | refine spl ?_ ?_ | intro hc)
    (refine At_ret1 (by (first | exact .inl rfl | exact .inr rfl)) Try.results16 rfl ⟨by (rw [this]; first | (rw [decide_eq_true (by omega)]; done) | (rw [decide_eq_false (by omega)]; done) | (simp; omega)), rfl⟩ (by (exact frm)))

/-- What a call makes of the row. -/
def opM (c : Cls) (o : OpM) : Cls :=
  if o.ask = 0 then (addM c o.ks).1 else if o.ask = 1 then (dropM c o.id).1 else if o.ask = 2 then (runM c o.id o.n).1 else if o.ask = 3 then (yieldM c o.id).1 else c

set_option maxHeartbeats 4000000 in
theorem does_ok (p r : Nat) (c : Cls) (o : OpM) (hw : c.Wf) (R : List HP) (ho : OpIn R o) :
    Called Try.prog 17 [ptr p, ptr r, .agg (opE o).toArray] (cls p c :: rcl r c :: R) (is (.bool true) (cls p (opM c o) :: rcl r (opM c o) :: R)) := by
  refine Called.know (p := c.Ok) (fun w hs => let ⟨_, h, _⟩ := cls_open hs; h) fun hok => ?_
  refine Fn3 Try.func17 rfl Try.ntmps17 rfl ?_
  obtain ⟨⟨hn1, hn2⟩, hol, hos⟩ := ho
  unfold opE
  by_cases h0 : o.ask = 0
  · rw [show opM c o = (addM c o.ks).1 by unfold opM; rw [if_pos h0]]
    (repeat' first | refine C_drawI (id := 3) [0, 1, 2, 4, 5, 6, 3, 7, 8, 9] (by kernel_rfl) (by kernel_rfl) (by kernel_rfl) rfl ?_ | refine C_drawI (id := 5) [0, 1, 2, 4, 5, 6, 3, 7, 8, 9] (by kernel_rfl) (by kernel_rfl) (by kernel_rfl) rfl ?_ | refine C_drawI (id := 7) [0, 1, 2, 3, 4, 6, 7, 8, 9, 10, 5, 11, 12, 13] (by kernel_rfl) (by kernel_rfl) (by kernel_rfl) rfl ?_ | refine C_drawI (id := 9) [0, 1, 2, 4, 5, 6, 3, 7, 8, 9] (by kernel_rfl) (by kernel_rfl) (by kernel_rfl) rfl ?_ | refine stp ?_ | intro v' hv' | intro (b : Nat) | refine spl ?_ ?_ | intro hc)
    apply w_cd
    rfl; rfl; exact Called.del1 (by (focus ((repeat (first | exact Del.here | apply Del.there)); done))) (Add_ok p c o.lv o.ks _ (by (exact srf)) hol); ((exact kmf))
    (repeat' first | refine C_drawI (id := 3) [0, 1, 2, 4, 5, 6, 3, 7, 8, 9] (by kernel_rfl) (by kernel_rfl) (by kernel_rfl) rfl ?_ | refine C_drawI (id := 5) [0, 1, 2, 4, 5, 6, 3, 7, 8, 9] (by kernel_rfl) (by kernel_rfl) (by kernel_rfl) rfl ?_ | refine C_drawI (id := 7) [0, 1, 2, 3, 4, 6, 7, 8, 9, 10, 5, 11, 12, 13] (by kernel_rfl) (by kernel_rfl) (by kernel_rfl) rfl ?_ | refine C_drawI (id := 9) [0, 1, 2, 4, 5, 6, 3, 7, 8, 9] (by kernel_rfl) (by kernel_rfl) (by kernel_rfl) rfl ?_ | refine stp ?_ | intro v' hv' | intro (b : Nat) | refine spl ?_ ?_ | intro hc)
    apply w_cd
    rfl; rfl; exact Called.del1 (by (focus ((repeat (first | exact Del.here | apply Del.there)); done))) (RAdd_ok r c o.lv o.ks hw hol _ (by (exact srf))); ((exact kmf))
    (repeat' first | refine C_drawI (id := 3) [0, 1, 2, 4, 5, 6, 3, 7, 8, 9] (by kernel_rfl) (by kernel_rfl) (by kernel_rfl) rfl ?_ | refine C_drawI (id := 5) [0, 1, 2, 4, 5, 6, 3, 7, 8, 9] (by kernel_rfl) (by kernel_rfl) (by kernel_rfl) rfl ?_ | refine C_drawI (id := 7) [0, 1, 2, 3, 4, 6, 7, 8, 9, 10, 5, 11, 12, 13] (by kernel_rfl) (by kernel_rfl) (by kernel_rfl) rfl ?_ | refine C_drawI (id := 9) [0, 1, 2, 4, 5, 6, 3, 7, 8, 9] (by kernel_rfl) (by kernel_rfl) (by kernel_rfl) rfl ?_ | refine stp ?_ | intro v' hv' | intro (b : Nat) | refine spl ?_ ?_ | intro hc)
    (refine At_ret1 (by (first | exact .inl rfl | exact .inr rfl)) Try.results17 rfl ⟨by rfl, rfl⟩ (by (exact frm)))
  · by_cases h1 : o.ask = 1
    · rw [show opM c o = (dropM c o.id).1 by unfold opM; rw [if_neg h0, if_pos h1]]
      have hA := Drop_ok p c o.id
      have hB := RDrop_ok r c o.id
      (repeat' first | refine C_drawI (id := 3) [0, 1, 2, 4, 5, 6, 3, 7, 8, 9] (by kernel_rfl) (by kernel_rfl) (by kernel_rfl) rfl ?_ | refine C_drawI (id := 5) [0, 1, 2, 4, 5, 6, 3, 7, 8, 9] (by kernel_rfl) (by kernel_rfl) (by kernel_rfl) rfl ?_ | refine C_drawI (id := 7) [0, 1, 2, 3, 4, 6, 7, 8, 9, 10, 5, 11, 12, 13] (by kernel_rfl) (by kernel_rfl) (by kernel_rfl) rfl ?_ | refine C_drawI (id := 9) [0, 1, 2, 4, 5, 6, 3, 7, 8, 9] (by kernel_rfl) (by kernel_rfl) (by kernel_rfl) rfl ?_ | refine stp ?_ | intro v' hv' | intro (b : Nat) | refine spl ?_ ?_ | intro hc)
      (refine At_ret1 (by (first | exact .inl rfl | exact .inr rfl)) Try.results17 rfl ⟨by rfl, rfl⟩ (by (exact frm)))
    · by_cases h2 : o.ask = 2
      · rw [show opM c o = (runM c o.id o.n).1 by unfold opM; rw [if_neg h0, if_neg h1, if_pos h2]]
        have hA := Run_ok p c o.id o.n ⟨hn1, hn2⟩
        have hB := RRun_ok r c o.id o.n ⟨hn1, hn2⟩ hw
        (repeat' first | refine C_drawI (id := 3) [0, 1, 2, 4, 5, 6, 3, 7, 8, 9] (by kernel_rfl) (by kernel_rfl) (by kernel_rfl) rfl ?_ | refine C_drawI (id := 5) [0, 1, 2, 4, 5, 6, 3, 7, 8, 9] (by kernel_rfl) (by kernel_rfl) (by kernel_rfl) rfl ?_ | refine C_drawI (id := 7) [0, 1, 2, 3, 4, 6, 7, 8, 9, 10, 5, 11, 12, 13] (by kernel_rfl) (by kernel_rfl) (by kernel_rfl) rfl ?_ | refine C_drawI (id := 9) [0, 1, 2, 4, 5, 6, 3, 7, 8, 9] (by kernel_rfl) (by kernel_rfl) (by kernel_rfl) rfl ?_ | refine stp ?_ | intro v' hv' | intro (b : Nat) | refine spl ?_ ?_ | intro hc)
        (refine At_ret1 (by (first | exact .inl rfl | exact .inr rfl)) Try.results17 rfl ⟨by rfl, rfl⟩ (by (exact frm)))
      · by_cases h3 : o.ask = 3
        · rw [show opM c o = (yieldM c o.id).1 by unfold opM; rw [if_neg h0, if_neg h1, if_neg h2, if_pos h3]]
          have hA := Yield_ok p c o.id
          have hB := RYield_ok r c o.id hw
          (repeat' first | refine C_drawI (id := 3) [0, 1, 2, 4, 5, 6, 3, 7, 8, 9] (by kernel_rfl) (by kernel_rfl) (by kernel_rfl) rfl ?_ | refine C_drawI (id := 5) [0, 1, 2, 4, 5, 6, 3, 7, 8, 9] (by kernel_rfl) (by kernel_rfl) (by kernel_rfl) rfl ?_ | refine C_drawI (id := 7) [0, 1, 2, 3, 4, 6, 7, 8, 9, 10, 5, 11, 12, 13] (by kernel_rfl) (by kernel_rfl) (by kernel_rfl) rfl ?_ | refine C_drawI (id := 9) [0, 1, 2, 4, 5, 6, 3, 7, 8, 9] (by kernel_rfl) (by kernel_rfl) (by kernel_rfl) rfl ?_ | refine stp ?_ | intro v' hv' | intro (b : Nat) | refine spl ?_ ?_ | intro hc)
          (refine At_ret1 (by (first | exact .inl rfl | exact .inr rfl)) Try.results17 rfl ⟨by rfl, rfl⟩ (by (exact frm)))
        · rw [show opM c o = c by unfold opM; rw [if_neg h0, if_neg h1, if_neg h2, if_neg h3]]
          have hA := Left_ok p c o.id
          refine C_sat (L' := rcl r c :: cls p c :: R) (fun w hs => hs.perm (.swap ..)) (C_rcl fun v u _ hv hu => ?_)
          have hB := fun R => At_ok r (int c.q) u v (ids c.l) o.id (by rw [ids_length]; exact hv) R
          have hq1 := hok.1
          have hq2 := hok.2.1
          cases hf : findIx c.l o.id with
          | none =>
            rw [show leftV c o.id = (0, 14) by unfold leftV; rw [hf]] at hA
            rw [show ixI (idx (ids c.l) o.id) = -1 by rw [← findIx_idx, hf]; rfl] at hB
            (repeat' first | refine C_drawI (id := 3) [0, 1, 2, 4, 5, 6, 3, 7, 8, 9] (by kernel_rfl) (by kernel_rfl) (by kernel_rfl) rfl ?_ | refine C_drawI (id := 5) [0, 1, 2, 4, 5, 6, 3, 7, 8, 9] (by kernel_rfl) (by kernel_rfl) (by kernel_rfl) rfl ?_ | refine C_drawI (id := 7) [0, 1, 2, 3, 4, 6, 7, 8, 9, 10, 5, 11, 12, 13] (by kernel_rfl) (by kernel_rfl) (by kernel_rfl) rfl ?_ | refine C_drawI (id := 9) [0, 1, 2, 4, 5, 6, 3, 7, 8, 9] (by kernel_rfl) (by kernel_rfl) (by kernel_rfl) rfl ?_ | refine stp ?_ | intro v' hv' | intro (b : Nat) | refine spl ?_ ?_ | intro hc)
            exact At_ret1 (by (first | exact .inl rfl | exact .inr rfl)) Try.results17 rfl ⟨rfl, rfl⟩ (fun w h => (rcl_fold (R := cls p c :: R) hok (Sel.sat (by (focus ((repeat (first | exact Sel.refl | (apply Sel.cons; (focus ((repeat (first | exact Del.here | apply Del.there)); done))) | refine Sel.drop ?_)); done))) h)).perm (.swap ..))
          | some k =>
            obtain ⟨t, ht, _⟩ := findIx_lt hf
            have hk : k < c.l.length := (List.getElem?_eq_some_iff.1 ht).1
            obtain ⟨hr0, hr1⟩ := hok.2.2.2 t (List.mem_of_getElem? ht)
            have hg : ((rans c.l).map inE)[k]? = some [int t.ran] := by simp [rans, ht, inE]
            rw [show leftV c o.id = (c.q - t.ran, 0) by unfold leftV; rw [hf]; simp [ht]] at hA
            rw [show ixI (idx (ids c.l) o.id) = k by rw [← findIx_idx, hf]; rfl] at hB
            (repeat' first | refine C_drawI (id := 3) [0, 1, 2, 4, 5, 6, 3, 7, 8, 9] (by kernel_rfl) (by kernel_rfl) (by kernel_rfl) rfl ?_ | refine C_drawI (id := 5) [0, 1, 2, 4, 5, 6, 3, 7, 8, 9] (by kernel_rfl) (by kernel_rfl) (by kernel_rfl) rfl ?_ | refine C_drawI (id := 7) [0, 1, 2, 3, 4, 6, 7, 8, 9, 10, 5, 11, 12, 13] (by kernel_rfl) (by kernel_rfl) (by kernel_rfl) rfl ?_ | refine C_drawI (id := 9) [0, 1, 2, 4, 5, 6, 3, 7, 8, 9] (by kernel_rfl) (by kernel_rfl) (by kernel_rfl) rfl ?_ | refine stp ?_ | intro v' hv' | intro (b : Nat) | refine spl ?_ ?_ | intro hc)
            exact At_ret1 (by (first | exact .inl rfl | exact .inr rfl)) Try.results17 rfl ⟨rfl, rfl⟩ (fun w h => (rcl_fold (R := cls p c :: R) hok (Sel.sat (by (focus ((repeat (first | exact Sel.refl | (apply Sel.cons; (focus ((repeat (first | exact Del.here | apply Del.there)); done))) | refine Sel.drop ?_)); done))) h)).perm (.swap ..))
end Go.Proofs.Ytenpeogkefmclaa
