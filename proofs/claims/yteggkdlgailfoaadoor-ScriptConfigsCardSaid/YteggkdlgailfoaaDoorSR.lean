/- script: ParseConfig. Conditions: none. -/
import Derived.Test.YteggkdlgailfoaaDoorSP
import Derived.Test.YteggkdlgailfoaaDoorSO
set_option linter.all false
set_option linter.deprecated false
namespace Go.Proofs.YteggkdlgailfoaaDoor
open Go.Sep
variable [B0 : Base]
/-! ### A configuration in its variable -/
def cfL (b : Nat) (v u : Value) (us : List Value) (c : Cfg) : List HP := [pt b 45 [v, int c.mu, int c.qu, u], sl 49 3 v (c.ds.map plE), sl 86 1 u (us.map uE), rowsT 88 us c.lib]
def cfOk (us : List Value) (c : Cfg) : Prop := RowsOk us c.lib ∧ c.ds.length ≤ 200000 ∧ c.lib.length ≤ 200000
def cfH (b : Nat) (c : Cfg) : HP := ex fun v => ex fun u => ex fun us => all (fact (cfOk us c) :: cfL b v u us c)
theorem cfH_fold {b : Nat} {c : Cfg} {v u : Value} {us : List Value} {w : World} {R : List HP} (ho : cfOk us c) (hs : Sat w (pt b 45 [v, int c.mu, int c.qu, u] :: sl 49 3 v (c.ds.map plE) :: sl 86 1 u (us.map uE) :: rowsT 88 us c.lib :: R)) : Sat w (cfH b c :: R) :=
  Sat.ex_iff.2 ⟨v, Sat.ex_iff.2 ⟨u, Sat.ex_iff.2 ⟨us, Sat.all_iff.2 (Sat.fact_iff.2 ⟨ho, hs⟩)⟩⟩⟩
theorem C_cfH {P : Program} {ro : Option Nat} {Q : Exit → Act → World → Prop} {n : Nat} {F : Fr} {ds : List Deferred} {R : List HP} {cd : Code} {b : Nat} {c : Cfg}
    (hk : ∀ v u us, cfOk us c → IsSl v c.ds.length → IsSl u us.length → C P ro cd Q n F ds (pt b 45 [v, int c.mu, int c.qu, u] :: sl 49 3 v (c.ds.map plE) :: sl 86 1 u (us.map uE) :: rowsT 88 us c.lib :: R)) : C P ro cd Q n F ds (cfH b c :: R) := by
  unfold cfH
  refine C_ex fun v => ?_
  refine C_ex fun u => ?_
  refine C_ex fun us => ?_
  refine C_sat (fun w h => Sat.all_iff.1 h) ?_
  refine C_fact fun ho => ?_
  refine C_sat (L' := pt b 45 [v, int c.mu, int c.qu, u] :: sl 49 3 v (c.ds.map plE) :: sl 86 1 u (us.map uE) :: rowsT 88 us c.lib :: R) (fun w h => h) ?_
  refine C_isl (v := v) (by (focus ((repeat (first | assumption | exact Len.of ‹_› | exact .slm | exact .sl | apply Len.there)); done))) fun hN _ => ?_
  refine C_isl (v := u) (by (focus ((repeat (first | assumption | exact Len.of ‹_› | exact .slm | exact .sl | apply Len.there)); done))) fun hM _ => ?_
  exact hk v u us ho hN hM
theorem W_cfH {P : Program} {ro : Option Nat} {ops : Array Oper} {Q : Exit → Act → World → Prop} {n : Nat} {F : Fr} {ds : List Deferred} {R : List HP} {cd : List Oper} {b : Nat} {c : Cfg}
    (hk : ∀ v u us, cfOk us c → IsSl v c.ds.length → IsSl u us.length → W P ro none ops Q n cd F ds (pt b 45 [v, int c.mu, int c.qu, u] :: sl 49 3 v (c.ds.map plE) :: sl 86 1 u (us.map uE) :: rowsT 88 us c.lib :: R)) : W P ro none ops Q n cd F ds (cfH b c :: R) := by
  unfold cfH
  refine W_ex fun v => ?_
  refine W_ex fun u => ?_
  refine W_ex fun us => ?_
  refine W_know (p := cfOk us c) (fun w h => (Sat.fact_iff.1 (Sat.all_iff.1 h)).1) fun ho => ?_
  refine W_sat (L' := pt b 45 [v, int c.mu, int c.qu, u] :: sl 49 3 v (c.ds.map plE) :: sl 86 1 u (us.map uE) :: rowsT 88 us c.lib :: R) (fun w h => (Sat.fact_iff.1 (Sat.all_iff.1 h)).2) ?_
  refine W_know (p := IsSl v c.ds.length) (fun w hs => Len.slm.there.out w hs) fun hN => ?_
  refine W_know (p := IsSl u us.length) (fun w hs => Len.slm.there.there.out w hs) fun hM => ?_
  exact hk v u us ho hN hM
attribute [irreducible] cfH
theorem cfg0_fold {w : World} {R : List HP} (hs : Sat w R) : Sat w (sl 49 3 (.slice none 0 0) (cfg0.ds.map plE) :: sl 86 1 (.slice none 0 0) (([] : List Value).map uE) :: rowsT 88 [] cfg0.lib :: R) := by
  have h1 : Sat w (rowsT 88 [] [] :: R) := rowsT_nil hs
  have h2 : Sat w (sl 86 1 (.slice none 0 0) (([] : List Value).map uE) :: rowsT 88 [] [] :: R) := h1.sl_nil
  exact h2.sl_nil
theorem cfH_zero {b : Nat} {w : World} {R : List HP} (hs : Sat w (pt b 45 [.slice none 0 0, int 0, int 0, .slice none 0 0] :: R)) : Sat w (cfH b cfg0 :: R) := by
  refine cfH_fold (v := .slice none 0 0) (u := .slice none 0 0) (us := []) ⟨RowsOk.nil, Nat.zero_le _, Nat.zero_le _⟩ ?_
  have h1 := cfg0_fold hs
  exact Sel.sat (by (focus ((repeat (first | exact Sel.refl | (apply Sel.cons; (focus ((repeat (first | exact Del.here | apply Del.there)); done))) | refine Sel.drop ?_)); done))) h1
theorem cfIn_own {v u : Value} {us : List Value} {c : Cfg} {X : List HP} (hr : RowsOk us c.lib) (hv : IsSl v c.ds.length) (hu : IsSl u us.length) : CfIn (sl 49 3 v (c.ds.map plE) :: sl 86 1 u (us.map uE) :: rowsT 88 us c.lib :: X) v u us c :=
  ⟨hv, Sep.Src.sl, by rw [← hr.len]; exact hu, hr.len, Sep.Src.sl.there, fun i p q h1 h2 => (rowsT_in h1 h2 (hr.isl i p q h1 h2)).there.there⟩
/-! ### The two runs -/
def hdStep (x : List Pl × Int × Int) (xs : List Value) : Option Code × (List Pl × Int × Int) := match xs with
  | [.string ⟨⟨t⟩⟩] => (none, hdNx x t)
  | _ => (none, x)
def hdDom (x : List Pl × Int × Int) (xs : List Value) : Prop := ∃ t : List UInt8, xs = [str t] ∧ x.1.length < 200000 ∧ t.length < 4294967281
theorem hd_goes {s : List UInt8} (hs : s.length ≤ 100000) : Goes (fun (x : (List Pl × Int × Int) × Option Code) xs => ((hdStep x.1 xs).1.isNone, ((hdStep x.1 xs).2, (hdStep x.1 xs).1))) (fun x xs => x.2 = none ∧ hdDom x.1 xs) (lnG s) 0 (([], 0, 0), none) (hdM s, none) :=
  goes_fold (linesL s) (fun _ t => [str t]) hdNx hdStep hdDom ([], 0, 0) fun i t ht => by
    have h1 := (List.getElem?_eq_some_iff.1 ht).1
    have h2 := lines_len s
    have h3 := lines_le s t (List.mem_of_getElem? ht)
    have h4 := List.count_le_length (a := (10 : UInt8)) (l := s)
    have h5 := hd_len ((linesL s).take i) ([], 0, 0)
    rw [List.length_take] at h5
    simp only [List.length_nil] at h5
    exact ⟨⟨t, rfl, by omega, by omega⟩, rfl⟩
def pgNx (x : List (List Ins) × Int) (t : List UInt8) : Option Code × (List (List Ins) × Int) := if pgOk t then (none, (x.1 ++ [(parseM t).1], x.2)) else (some .ret, (x.1, 22))
theorem pg_good : ∀ {ll : List (List UInt8)} {x : List (List Ins) × Int}, (∀ t ∈ ll, pgOk t) → foldS pgNx ll x = ((x.1 ++ ll.map (fun t => (parseM t).1), x.2), none)
  | [], x, _ => by simp [foldS]
  | t :: ll, x, h => by
    have h1 : pgNx x t = (none, (x.1 ++ [(parseM t).1], x.2)) := if_pos (h t List.mem_cons_self)
    rw [foldS, h1]
    dsimp only
    rw [pg_good fun y hy => h y (List.mem_cons_of_mem _ hy)]
    simp
theorem pg_bad : ∀ {ll : List (List UInt8)} {x : List (List Ins) × Int}, (¬ ∀ t ∈ ll, pgOk t) → ∃ o, foldS pgNx ll x = ((o, 22), some .ret)
  | [], x, h => absurd (fun t ht => by cases ht) h
  | t :: ll, x, h => by
    by_cases h1 : pgOk t
    · have h2 : pgNx x t = (none, (x.1 ++ [(parseM t).1], x.2)) := if_pos h1
      obtain ⟨o, ho⟩ := pg_bad (ll := ll) (x := (x.1 ++ [(parseM t).1], x.2)) fun hh => h fun y hy => by
        rcases List.mem_cons.1 hy with rfl | hy
        · exact h1
        · exact hh y hy
      exact ⟨o, by rw [foldS, h2]; exact ho⟩
    · have h2 : pgNx x t = (some .ret, (x.1, 22)) := if_neg h1
      exact ⟨x.1, by rw [foldS, h2]⟩
def pgStep (x : List (List Ins) × Int) (xs : List Value) : Option Code × (List (List Ins) × Int) := match xs with
  | [.string ⟨⟨t⟩⟩] => pgNx x t
  | _ => (none, x)
def pgDom (x : List (List Ins) × Int) (xs : List Value) : Prop := ∃ t : List UInt8, xs = [str t] ∧ x.1.length < 200000 ∧ x.2 = 0 ∧ t.length < 4294967281
theorem pg_goes {s : List UInt8} (hs : s.length ≤ 100000) : Goes (fun (x : (List (List Ins) × Int) × Option Code) xs => ((pgStep x.1 xs).1.isNone, ((pgStep x.1 xs).2, (pgStep x.1 xs).1))) (fun x xs => x.2 = none ∧ pgDom x.1 xs) (pcG s) 0 (([], 0), none) (foldS pgNx (pcs s) ([], 0)) := by
  refine goes_stop (pcs s) (fun _ t => [str t]) pgNx pgStep pgDom (fun i x => x.1.length = i ∧ x.2 = 0) ([], 0) ⟨rfl, rfl⟩ fun i t x ht hi => ?_
  have h1 := (List.getElem?_eq_some_iff.1 ht).1
  have h2 : (pcs s).length ≤ s.length + 1 := pcsN_len _ _
  have h3 := pcsN_mem _ _ t (List.mem_of_getElem? ht)
  refine ⟨⟨t, rfl, by omega, hi.2, by omega⟩, rfl, fun hn => ?_⟩
  unfold pgNx at hn ⊢
  split at hn
  · rename_i hc
    rw [if_pos hc]
    exact ⟨by simp [hi.1], hi.2⟩
  · cases hn
def pcH (b b2 b3 : Nat) (R : List HP) (c : Cfg) (e : Int) : HP := all [cfH b c, pt b2 45 [.slice none 0 0, int 0, int 0, .slice none 0 0], pt b3 30 [int e], all R]
theorem hasP_pcH {b b2 b3 : Nat} {R : List HP} {c : Cfg} {e : Int} (hV : HasP R) {A : HP} {X : List HP} : HasP (all [pcH b b2 b3 R c e, A] :: X) := ⟨fun w hs => by
  have h1 : Sat w (pcH b b2 b3 R c e :: A :: X) := Sat.all_iff.1 hs
  have h2 : Sat w (cfH b c :: pt b2 45 [.slice none 0 0, int 0, int 0, .slice none 0 0] :: pt b3 30 [int e] :: all R :: A :: X) := Sat.all_iff.1 h1
  exact hV.out w (Sat.all_left h2.drop.drop.drop)⟩
def pcP (s : List UInt8) (R : List HP) (x : Value) (M : List HP) : Prop := ∃ v u us, x = .tuple #[.agg (cfE v u (parseC s).1).toArray, int (parseC s).2] ∧ RowsOk us (parseC s).1.lib ∧ IsSl v (parseC s).1.ds.length ∧ IsSl u us.length ∧ M = sl 49 3 v ((parseC s).1.ds.map plE) :: sl 86 1 u (us.map uE) :: rowsT 88 us (parseC s).1.lib :: R
theorem cut_lens (s m : List UInt8) : (Lib.cut s m).1.length ≤ s.length ∧ (Lib.cut s m).2.1.length ≤ s.length := by
  unfold Lib.cut
  split
  · exact ⟨by rw [List.length_take]; omega, by rw [List.length_drop]; omega⟩
  · exact ⟨Nat.le_refl _, by simp⟩
set_option maxHeartbeats 16000000 in
theorem sParseC_ok (s : List UInt8) (R : List HP) [hV : HasP R] (hs : s.length ≤ 100000) : Called Tryd.prog 19 [str s] R (pcP s R) := by
  haveI hVa : ∀ X, HasP (all R :: X) := fun X => hasP_all hV
  have hCu := fun M (hM : HasP M) => Cut_ok s wPro M (by omega)
  obtain ⟨hl1, hl2⟩ := cut_lens s wPro
  have hpc : parseC s = if (Lib.cut s wPro).1.length < s.length then
    if ∀ t ∈ pcs (Lib.cut s wPro).2.1, pgOk t then chkC s ⟨(hdM (Lib.cut s wPro).1).1, (hdM (Lib.cut s wPro).1).2.1, (hdM (Lib.cut s wPro).1).2.2, (pcs (Lib.cut s wPro).2.1).map fun t => (parseM t).1⟩ else (cfg0, 22)
  else chkC s ⟨(hdM (Lib.cut s wPro).1).1, (hdM (Lib.cut s wPro).1).2.1, (hdM (Lib.cut s wPro).1).2.2, []⟩ := rfl
  unfold pcP
  generalize parseC s = pq at *
  generalize Lib.cut s wPro = ct at *
  obtain ⟨hd, rs, fd⟩ := ct
  dsimp only at *
  have hG := hd_goes (s := hd) (by omega)
  have hGp := pg_goes (s := rs) (by omega)
  have hdl : (hdM hd).1.length ≤ 100001 := by
    have h2 := lines_len hd
    have h4 := List.count_le_length (a := (10 : UInt8)) (l := hd)
    have h5 := hd_len (linesL hd) ([], 0, 0)
    simp only [List.length_nil] at h5
    unfold hdM
    omega
  have hWd : True := trivial
  have hPr : True := trivial
  have hOc : True := trivial
  refine FnM1 Tryd.func19 rfl Tryd.ntmps19 rfl ?_
  (repeat' first | refine stp ?_ | intro v' hv' | intro (b : Nat) | (apply w_convU; rfl; rfl; omega; omega) | (apply w_convI; rfl; rfl; omega; omega) | (apply w_quoU; rfl; rfl; rfl; omega; omega; omega) | (apply w_remU; rfl; rfl; rfl; omega; omega) | (apply w_minL; rfl; rfl; rfl; omega) | (apply w_minG; rfl; rfl; rfl; omega) | (apply w_min; rfl; rfl; rfl) | (apply w_mfR; rfl; rfl) | (apply w_cvp; rfl; rfl; exact inferInstance; rfl; rfl; assumption) | (apply w_eqS2T; rfl; rfl; rfl; omega) | (apply w_eqS2F; rfl; rfl; rfl; omega) | (apply w_neS2T; rfl; rfl; rfl; omega) | (apply w_neS2F; rfl; rfl; rfl; omega) | (apply w_eqS3T; rfl; rfl; rfl; omega) | (apply w_eqS3F; rfl; rfl; rfl; omega) | (apply w_neS3T; rfl; rfl; rfl; omega) | (apply w_neS3F; rfl; rfl; rfl; omega) | (apply w_eqS3; rfl; rfl; rfl) | (apply w_neS3; rfl; rfl; rfl) | (apply w_eqS2; rfl; rfl; rfl) | (apply w_neS2; rfl; rfl; rfl) | (apply w_maxL; rfl; rfl; rfl; omega) | (apply w_maxG; rfl; rfl; rfl; omega) | (apply w_max; rfl; rfl; rfl) | (apply w_neB; rfl; rfl; rfl; rfl) | (apply w_eqB; rfl; rfl; rfl; rfl) | (apply w_strA; rfl; rfl; rfl; first | omega | (simp only [List.length_append, List.length_cons, List.length_nil]; omega)) | (apply w_strET; rfl; rfl; rfl; assumption) | (apply w_strEF; rfl; rfl; rfl; assumption) | (apply w_strNF; rfl; rfl; rfl; assumption) | (apply w_strNT; rfl; rfl; rfl; assumption) | (apply w_strE; rfl; rfl; rfl; rfl) | (apply w_strN; rfl; rfl; rfl; rfl) | (apply w_strL; rfl; rfl) | (apply w_fldV; rfl; rfl; rfl) | (apply w_ixA; rfl; rfl; rfl; omega; omega; assumption) | (apply w_cd; rfl; rfl; exact hCu _ inferInstance; ((exact kmf))) | (apply w_cd; rfl; rfl; exact hWd; ((exact kmf))) | (apply w_cd; rfl; rfl; exact hPr; ((exact kmf))) | (apply w_sa; rfl; rfl; rfl; exact hOc; ((focus ((repeat (first | exact .pt rfl | apply StAll.there)); done))); ((exact kmf))) | (apply w_cl; rfl; rfl; exact Lines_ok _ _; exact ⟨_, _, 0, rfl, rfl⟩; rintro _ _ ⟨bt, rfl, rfl⟩; refine ⟨by (exact kmf), ?_⟩) | (apply w_cl; rfl; rfl; exact SplitSeq_ok _ _; exact ⟨_, _, 0, 0, 0, rfl, rfl⟩; rintro _ _ ⟨c1, c2, c3, rfl, rfl⟩; refine ⟨by (exact kmf), ?_⟩) | refine spl ?_ ?_ | intro hc)
  rename_i b2 b3
  obtain ⟨b4, hb4⟩ : ∃ r, r = b := ⟨_, rfl⟩
  subst hb4
  have hout : ∀ {w : World} {Y : List HP}, Sat w (all R :: Y) → Sat w (R ++ Y) := fun {w Y} hs => Sat.all_iff.1 hs
  refine C_sat (L' := pt bt 9 [str hd] :: pcH b4 b2 b3 R cfg0 0 :: []) (fun w hs => ?_) ?_
  · have h1 : Sat w (pt b4 45 [.slice none 0 0, int 0, int 0, .slice none 0 0] :: pt bt 9 [str hd] :: pt b3 30 [int 0] :: pt b2 45 [.slice none 0 0, int 0, int 0, .slice none 0 0] :: R) := Sel.sat (by (focus ((repeat (first | exact Sel.refl | (apply Sel.cons; (focus ((repeat (first | exact Del.here | apply Del.there)); done))) | refine Sel.drop ?_)); done))) hs
    have h2 : Sat w ([cfH b4 cfg0, pt bt 9 [str hd], pt b3 30 [int 0], pt b2 45 [.slice none 0 0, int 0, int 0, .slice none 0 0]] ++ R) := cfH_zero h1
    have h3 : Sat w (all R :: [cfH b4 cfg0, pt bt 9 [str hd], pt b3 30 [int 0], pt b2 45 [.slice none 0 0, int 0, int 0, .slice none 0 0]]) := Sat.all_iff.2 (h2.perm List.perm_append_comm)
    have h4 : Sat w (all [cfH b4 cfg0, pt b2 45 [.slice none 0 0, int 0, int 0, .slice none 0 0], pt b3 30 [int 0], all R] :: pt bt 9 [str hd] :: []) := Sat.all_iff.2 (Sel.sat (by (focus ((repeat (first | exact Sel.refl | (apply Sel.cons; (focus ((repeat (first | exact Del.here | apply Del.there)); done))) | refine Sel.drop ?_)); done))) h3)
    exact h4.perm (.swap ..)
  refine C_rangeT (A := fun x => pcH b4 b2 b3 R ⟨x.1, x.2.1, x.2.2, []⟩ 0) (s0 := ([], 0, 0)) (step := hdStep) (dom := hdDom) rfl (Lines1_ok bt hd (by omega)) rfl (fun s xs hd => by obtain ⟨x, rfl, -⟩ := hd; rfl) Sel.refl ?_ hG fun r => ?_
  · clear hpc hG hGp hCu
    rintro lb r ⟨ds, mu, qu⟩ xs J ⟨t, rfl, hlt, htl⟩
    dsimp only at hlt
    apply Exists.intro
    refine ⟨fun _ => fact True, fun Q r' hQ => ?_, fun b => ?_⟩
    · simp only [parF]
      have hCu : True := trivial
      (repeat' first | refine stp ?_ | intro v' hv' | intro (b : Nat) | (apply w_convU; rfl; rfl; omega; omega) | (apply w_convI; rfl; rfl; omega; omega) | (apply w_quoU; rfl; rfl; rfl; omega; omega; omega) | (apply w_remU; rfl; rfl; rfl; omega; omega) | (apply w_minL; rfl; rfl; rfl; omega) | (apply w_minG; rfl; rfl; rfl; omega) | (apply w_min; rfl; rfl; rfl) | (apply w_mfR; rfl; rfl) | (apply w_cvp; rfl; rfl; exact inferInstance; rfl; rfl; assumption) | (apply w_eqS2T; rfl; rfl; rfl; omega) | (apply w_eqS2F; rfl; rfl; rfl; omega) | (apply w_neS2T; rfl; rfl; rfl; omega) | (apply w_neS2F; rfl; rfl; rfl; omega) | (apply w_eqS3T; rfl; rfl; rfl; omega) | (apply w_eqS3F; rfl; rfl; rfl; omega) | (apply w_neS3T; rfl; rfl; rfl; omega) | (apply w_neS3F; rfl; rfl; rfl; omega) | (apply w_eqS3; rfl; rfl; rfl) | (apply w_neS3; rfl; rfl; rfl) | (apply w_eqS2; rfl; rfl; rfl) | (apply w_neS2; rfl; rfl; rfl) | (apply w_maxL; rfl; rfl; rfl; omega) | (apply w_maxG; rfl; rfl; rfl; omega) | (apply w_max; rfl; rfl; rfl) | (apply w_neB; rfl; rfl; rfl; rfl) | (apply w_eqB; rfl; rfl; rfl; rfl) | (apply w_strA; rfl; rfl; rfl; first | omega | (simp only [List.length_append, List.length_cons, List.length_nil]; omega)) | (apply w_strET; rfl; rfl; rfl; assumption) | (apply w_strEF; rfl; rfl; rfl; assumption) | (apply w_strNF; rfl; rfl; rfl; assumption) | (apply w_strNT; rfl; rfl; rfl; assumption) | (apply w_strE; rfl; rfl; rfl; rfl) | (apply w_strN; rfl; rfl; rfl; rfl) | (apply w_strL; rfl; rfl) | (apply w_fldV; rfl; rfl; rfl) | (apply w_ixA; rfl; rfl; rfl; omega; omega; assumption) | (apply w_cd; rfl; rfl; exact hCu _ inferInstance; ((exact kmf))) | (apply w_cd; rfl; rfl; exact hWd; ((exact kmf))) | (apply w_cd; rfl; rfl; exact hPr; ((exact kmf))) | (apply w_sa; rfl; rfl; rfl; exact hOc; ((focus ((repeat (first | exact .pt rfl | apply StAll.there)); done))); ((exact kmf))) | (apply w_cl; rfl; rfl; exact Lines_ok _ _; exact ⟨_, _, 0, rfl, rfl⟩; rintro _ _ ⟨bt, rfl, rfl⟩; refine ⟨by (exact kmf), ?_⟩) | (apply w_cl; rfl; rfl; exact SplitSeq_ok _ _; exact ⟨_, _, 0, 0, 0, rfl, rfl⟩; rintro _ _ ⟨c1, c2, c3, rfl, rfl⟩; refine ⟨by (exact kmf), ?_⟩) | refine spl ?_ ?_ | intro hc)
      obtain ⟨b, -⟩ : ∃ b : Nat, True := ⟨0, trivial⟩
      exact At_sat (fun w h => Sat.fact_iff.2 ⟨trivial, h⟩) (hQ b)
    · refine C_fact fun _ => ?_
      refine C_block ?_
      show C Tryd.prog _ _ (Exit.inBlock _ (RPost none (pcH b4 b2 b3 R ⟨(hdNx (ds, mu, qu) t).1, (hdNx (ds, mu, qu) t).2.1, (hdNx (ds, mu, qu) t).2.2, []⟩ 0 :: blk lb (.loop r) :: J))) _ _ _ _
      refine C_sat (L' := cfH b4 ⟨ds, mu, qu, []⟩ :: pt b2 45 [.slice none 0 0, int 0, int 0, .slice none 0 0] :: pt b3 30 [int 0] :: all R :: blk lb (.loop r) :: J) (fun w hs => Sat.all_iff.1 hs) ?_
      refine C_cfH fun v2 u2 us2 ho hv2 hu2 => ?_
      obtain ⟨ho1, ho2, ho3⟩ := ho
      dsimp only at *
      have hfold : ∀ (x : List Pl × Int × Int) (v3 : Value) (w : World), x.1.length ≤ 200000 → Sat w (pt b4 45 [v3, int x.2.1, int x.2.2, u2] :: sl 49 3 v3 (x.1.map plE) :: sl 86 1 u2 (us2.map uE) :: rowsT 88 us2 [] :: pt b2 45 [.slice none 0 0, int 0, int 0, .slice none 0 0] :: pt b3 30 [int 0] :: all R :: blk lb (.loop r) :: J) → Sat w (pcH b4 b2 b3 R ⟨x.1, x.2.1, x.2.2, []⟩ 0 :: blk lb (.loop r) :: J) := fun x v3 w hh hs => Sat.all_iff.2 (cfH_fold ⟨ho1, hh, Nat.zero_le _⟩ hs)
      have hCu : True := trivial
      clear hWd
      have hWd : Called Tryd.prog 32 [str t] (pt b4 45 [v2, int mu, int qu, u2] :: sl 49 3 v2 (ds.map plE) :: sl 86 1 u2 (us2.map uE) :: rowsT 88 us2 [] :: pt b2 45 [.slice none 0 0, int 0, int 0, .slice none 0 0] :: pt b3 30 [int 0] :: all R :: blk lb (.loop r) :: J) (is (.tuple #[str ((lw t).getD 0 []), .agg #[int (atW (lw t) 0), int (atW (lw t) 1), int (atW (lw t) 2), int (atW (lw t) 3), int (atW (lw t) 4), int (atW (lw t) 5)]]) (pt b4 45 [v2, int mu, int qu, u2] :: sl 49 3 v2 (ds.map plE) :: sl 86 1 u2 (us2.map uE) :: rowsT 88 us2 [] :: pt b2 45 [.slice none 0 0, int 0, int 0, .slice none 0 0] :: pt b3 30 [int 0] :: all R :: blk lb (.loop r) :: J)) := lwords_ok t _ htl
      have hpm : plM t = ⟨atW (lw t) 0, decide (atW (lw t) 1 = 1), atW (lw t) 2⟩ := rfl
      by_cases hw1 : (lw t).getD 0 [] = wDom
      · have hnx : hdNx (ds, mu, qu) t = (ds ++ [plM t], mu, qu) := if_pos hw1
        rw [hnx]
        have hwa : (lw t).getD 0 [] = [100, 111, 109, 97, 105, 110] := hw1
        clear hw1 hnx
        generalize (lw t).getD 0 [] = w0 at *
        generalize plM t = pm at *
        generalize atW (lw t) 0 = f0 at *
        generalize atW (lw t) 1 = f1 at *
        generalize atW (lw t) 2 = f2 at *
        generalize atW (lw t) 3 = f3 at *
        generalize atW (lw t) 4 = f4 at *
        generalize atW (lw t) 5 = f5 at *
        (repeat' first | refine stp ?_ | intro v' hv' | intro (b : Nat) | (apply w_convU; rfl; rfl; omega; omega) | (apply w_convI; rfl; rfl; omega; omega) | (apply w_quoU; rfl; rfl; rfl; omega; omega; omega) | (apply w_remU; rfl; rfl; rfl; omega; omega) | (apply w_minL; rfl; rfl; rfl; omega) | (apply w_minG; rfl; rfl; rfl; omega) | (apply w_min; rfl; rfl; rfl) | (apply w_mfR; rfl; rfl) | (apply w_cvp; rfl; rfl; exact inferInstance; rfl; rfl; assumption) | (apply w_eqS2T; rfl; rfl; rfl; omega) | (apply w_eqS2F; rfl; rfl; rfl; omega) | (apply w_neS2T; rfl; rfl; rfl; omega) | (apply w_neS2F; rfl; rfl; rfl; omega) | (apply w_eqS3T; rfl; rfl; rfl; omega) | (apply w_eqS3F; rfl; rfl; rfl; omega) | (apply w_neS3T; rfl; rfl; rfl; omega) | (apply w_neS3F; rfl; rfl; rfl; omega) | (apply w_eqS3; rfl; rfl; rfl) | (apply w_neS3; rfl; rfl; rfl) | (apply w_eqS2; rfl; rfl; rfl) | (apply w_neS2; rfl; rfl; rfl) | (apply w_maxL; rfl; rfl; rfl; omega) | (apply w_maxG; rfl; rfl; rfl; omega) | (apply w_max; rfl; rfl; rfl) | (apply w_neB; rfl; rfl; rfl; rfl) | (apply w_eqB; rfl; rfl; rfl; rfl) | (apply w_strA; rfl; rfl; rfl; first | omega | (simp only [List.length_append, List.length_cons, List.length_nil]; omega)) | (apply w_strET; rfl; rfl; rfl; assumption) | (apply w_strEF; rfl; rfl; rfl; assumption) | (apply w_strNF; rfl; rfl; rfl; assumption) | (apply w_strNT; rfl; rfl; rfl; assumption) | (apply w_strE; rfl; rfl; rfl; rfl) | (apply w_strN; rfl; rfl; rfl; rfl) | (apply w_strL; rfl; rfl) | (apply w_fldV; rfl; rfl; rfl) | (apply w_ixA; rfl; rfl; rfl; omega; omega; assumption) | (apply w_cd; rfl; rfl; exact hCu _ inferInstance; ((exact kmf))) | (apply w_cd; rfl; rfl; exact hWd; ((exact kmf))) | (apply w_cd; rfl; rfl; exact hPr; ((exact kmf))) | (apply w_sa; rfl; rfl; rfl; exact hOc; ((focus ((repeat (first | exact .pt rfl | apply StAll.there)); done))); ((exact kmf))) | (apply w_cl; rfl; rfl; exact Lines_ok _ _; exact ⟨_, _, 0, rfl, rfl⟩; rintro _ _ ⟨bt, rfl, rfl⟩; refine ⟨by (exact kmf), ?_⟩) | (apply w_cl; rfl; rfl; exact SplitSeq_ok _ _; exact ⟨_, _, 0, 0, 0, rfl, rfl⟩; rintro _ _ ⟨c1, c2, c3, rfl, rfl⟩; refine ⟨by (exact kmf), ?_⟩) | refine spl ?_ ?_ | intro hc)
        all_goals first | (exfalso; omega) | skip
        apply w_ap (es := [[int f0, .bool (decide (f1 = 1)), int f2]])
        rfl; rfl; rfl; ((focus ((repeat (first | exact Del.here | apply Del.there)); done))); ((exact srf)); rfl; (simp; omega); (simp; omega)
        intro v3 hv3
        refine ⟨by (exact kmf), ?_⟩
        (repeat' first | refine stp ?_ | intro v' hv' | intro (b : Nat) | (apply w_convU; rfl; rfl; omega; omega) | (apply w_convI; rfl; rfl; omega; omega) | (apply w_quoU; rfl; rfl; rfl; omega; omega; omega) | (apply w_remU; rfl; rfl; rfl; omega; omega) | (apply w_minL; rfl; rfl; rfl; omega) | (apply w_minG; rfl; rfl; rfl; omega) | (apply w_min; rfl; rfl; rfl) | (apply w_mfR; rfl; rfl) | (apply w_cvp; rfl; rfl; exact inferInstance; rfl; rfl; assumption) | (apply w_eqS2T; rfl; rfl; rfl; omega) | (apply w_eqS2F; rfl; rfl; rfl; omega) | (apply w_neS2T; rfl; rfl; rfl; omega) | (apply w_neS2F; rfl; rfl; rfl; omega) | (apply w_eqS3T; rfl; rfl; rfl; omega) | (apply w_eqS3F; rfl; rfl; rfl; omega) | (apply w_neS3T; rfl; rfl; rfl; omega) | (apply w_neS3F; rfl; rfl; rfl; omega) | (apply w_eqS3; rfl; rfl; rfl) | (apply w_neS3; rfl; rfl; rfl) | (apply w_eqS2; rfl; rfl; rfl) | (apply w_neS2; rfl; rfl; rfl) | (apply w_maxL; rfl; rfl; rfl; omega) | (apply w_maxG; rfl; rfl; rfl; omega) | (apply w_max; rfl; rfl; rfl) | (apply w_neB; rfl; rfl; rfl; rfl) | (apply w_eqB; rfl; rfl; rfl; rfl) | (apply w_strA; rfl; rfl; rfl; first | omega | (simp only [List.length_append, List.length_cons, List.length_nil]; omega)) | (apply w_strET; rfl; rfl; rfl; assumption) | (apply w_strEF; rfl; rfl; rfl; assumption) | (apply w_strNF; rfl; rfl; rfl; assumption) | (apply w_strNT; rfl; rfl; rfl; assumption) | (apply w_strE; rfl; rfl; rfl; rfl) | (apply w_strN; rfl; rfl; rfl; rfl) | (apply w_strL; rfl; rfl) | (apply w_fldV; rfl; rfl; rfl) | (apply w_ixA; rfl; rfl; rfl; omega; omega; assumption) | (apply w_cd; rfl; rfl; exact hCu _ inferInstance; ((exact kmf))) | (apply w_cd; rfl; rfl; exact hWd; ((exact kmf))) | (apply w_cd; rfl; rfl; exact hPr; ((exact kmf))) | (apply w_sa; rfl; rfl; rfl; exact hOc; ((focus ((repeat (first | exact .pt rfl | apply StAll.there)); done))); ((exact kmf))) | (apply w_cl; rfl; rfl; exact Lines_ok _ _; exact ⟨_, _, 0, rfl, rfl⟩; rintro _ _ ⟨bt, rfl, rfl⟩; refine ⟨by (exact kmf), ?_⟩) | (apply w_cl; rfl; rfl; exact SplitSeq_ok _ _; exact ⟨_, _, 0, 0, 0, rfl, rfl⟩; rintro _ _ ⟨c1, c2, c3, rfl, rfl⟩; refine ⟨by (exact kmf), ?_⟩) | refine spl ?_ ?_ | intro hc)
        refine At_round_normal (fun w h => ?_)
        refine hfold (ds ++ [pm], mu, qu) v3 w (by simp; omega) ?_
        have hme : (ds ++ [pm]).map plE = ds.map plE ++ [[int f0, .bool (decide (f1 = 1)), int f2]] := by rw [List.map_append, hpm]; rfl
        dsimp only
        rw [hme]
        exact Sel.sat (by (focus ((repeat (first | exact Sel.refl | (apply Sel.cons; (focus ((repeat (first | exact Del.here | apply Del.there)); done))) | refine Sel.drop ?_)); done))) h
      · have hwa : (lw t).getD 0 [] ≠ [100, 111, 109, 97, 105, 110] := hw1
        by_cases hw2 : (lw t).getD 0 [] = wMut
        · have hnx : hdNx (ds, mu, qu) t = (ds, atW (lw t) 0, qu) := by
            unfold hdNx
            rw [if_neg hw1, if_pos hw2]
          rw [hnx]
          have hwb : (lw t).getD 0 [] = [109, 117, 116, 101, 120, 101, 115] := hw2
          clear hw1 hw2 hnx hpm
          generalize (lw t).getD 0 [] = w0 at *
          generalize atW (lw t) 0 = f0 at *
          generalize atW (lw t) 1 = f1 at *
          generalize atW (lw t) 2 = f2 at *
          generalize atW (lw t) 3 = f3 at *
          generalize atW (lw t) 4 = f4 at *
          generalize atW (lw t) 5 = f5 at *
          (repeat' first | refine stp ?_ | intro v' hv' | intro (b : Nat) | (apply w_convU; rfl; rfl; omega; omega) | (apply w_convI; rfl; rfl; omega; omega) | (apply w_quoU; rfl; rfl; rfl; omega; omega; omega) | (apply w_remU; rfl; rfl; rfl; omega; omega) | (apply w_minL; rfl; rfl; rfl; omega) | (apply w_minG; rfl; rfl; rfl; omega) | (apply w_min; rfl; rfl; rfl) | (apply w_mfR; rfl; rfl) | (apply w_cvp; rfl; rfl; exact inferInstance; rfl; rfl; assumption) | (apply w_eqS2T; rfl; rfl; rfl; omega) | (apply w_eqS2F; rfl; rfl; rfl; omega) | (apply w_neS2T; rfl; rfl; rfl; omega) | (apply w_neS2F; rfl; rfl; rfl; omega) | (apply w_eqS3T; rfl; rfl; rfl; omega) | (apply w_eqS3F; rfl; rfl; rfl; omega) | (apply w_neS3T; rfl; rfl; rfl; omega) | (apply w_neS3F; rfl; rfl; rfl; omega) | (apply w_eqS3; rfl; rfl; rfl) | (apply w_neS3; rfl; rfl; rfl) | (apply w_eqS2; rfl; rfl; rfl) | (apply w_neS2; rfl; rfl; rfl) | (apply w_maxL; rfl; rfl; rfl; omega) | (apply w_maxG; rfl; rfl; rfl; omega) | (apply w_max; rfl; rfl; rfl) | (apply w_neB; rfl; rfl; rfl; rfl) | (apply w_eqB; rfl; rfl; rfl; rfl) | (apply w_strA; rfl; rfl; rfl; first | omega | (simp only [List.length_append, List.length_cons, List.length_nil]; omega)) | (apply w_strET; rfl; rfl; rfl; assumption) | (apply w_strEF; rfl; rfl; rfl; assumption) | (apply w_strNF; rfl; rfl; rfl; assumption) | (apply w_strNT; rfl; rfl; rfl; assumption) | (apply w_strE; rfl; rfl; rfl; rfl) | (apply w_strN; rfl; rfl; rfl; rfl) | (apply w_strL; rfl; rfl) | (apply w_fldV; rfl; rfl; rfl) | (apply w_ixA; rfl; rfl; rfl; omega; omega; assumption) | (apply w_cd; rfl; rfl; exact hCu _ inferInstance; ((exact kmf))) | (apply w_cd; rfl; rfl; exact hWd; ((exact kmf))) | (apply w_cd; rfl; rfl; exact hPr; ((exact kmf))) | (apply w_sa; rfl; rfl; rfl; exact hOc; ((focus ((repeat (first | exact .pt rfl | apply StAll.there)); done))); ((exact kmf))) | (apply w_cl; rfl; rfl; exact Lines_ok _ _; exact ⟨_, _, 0, rfl, rfl⟩; rintro _ _ ⟨bt, rfl, rfl⟩; refine ⟨by (exact kmf), ?_⟩) | (apply w_cl; rfl; rfl; exact SplitSeq_ok _ _; exact ⟨_, _, 0, 0, 0, rfl, rfl⟩; rintro _ _ ⟨c1, c2, c3, rfl, rfl⟩; refine ⟨by (exact kmf), ?_⟩) | refine spl ?_ ?_ | intro hc)
          all_goals first | (exfalso; omega) | skip
          all_goals exact At_round_normal (fun w h => hfold (ds, f0, qu) v2 w ho2 (Sel.sat (by (focus ((repeat (first | exact Sel.refl | (apply Sel.cons; (focus ((repeat (first | exact Del.here | apply Del.there)); done))) | refine Sel.drop ?_)); done))) h))
        · have hwb : (lw t).getD 0 [] ≠ [109, 117, 116, 101, 120, 101, 115] := hw2
          by_cases hw3 : (lw t).getD 0 [] = wQua
          · have hnx : hdNx (ds, mu, qu) t = (ds, mu, atW (lw t) 0) := by
              unfold hdNx
              rw [if_neg hw1, if_neg hw2, if_pos hw3]
            rw [hnx]
            have hwc : (lw t).getD 0 [] = [113, 117, 97, 110, 116, 117, 109] := hw3
            clear hw1 hw2 hw3 hnx hpm
            generalize (lw t).getD 0 [] = w0 at *
            generalize atW (lw t) 0 = f0 at *
            generalize atW (lw t) 1 = f1 at *
            generalize atW (lw t) 2 = f2 at *
            generalize atW (lw t) 3 = f3 at *
            generalize atW (lw t) 4 = f4 at *
            generalize atW (lw t) 5 = f5 at *
            (repeat' first | refine stp ?_ | intro v' hv' | intro (b : Nat) | (apply w_convU; rfl; rfl; omega; omega) | (apply w_convI; rfl; rfl; omega; omega) | (apply w_quoU; rfl; rfl; rfl; omega; omega; omega) | (apply w_remU; rfl; rfl; rfl; omega; omega) | (apply w_minL; rfl; rfl; rfl; omega) | (apply w_minG; rfl; rfl; rfl; omega) | (apply w_min; rfl; rfl; rfl) | (apply w_mfR; rfl; rfl) | (apply w_cvp; rfl; rfl; exact inferInstance; rfl; rfl; assumption) | (apply w_eqS2T; rfl; rfl; rfl; omega) | (apply w_eqS2F; rfl; rfl; rfl; omega) | (apply w_neS2T; rfl; rfl; rfl; omega) | (apply w_neS2F; rfl; rfl; rfl; omega) | (apply w_eqS3T; rfl; rfl; rfl; omega) | (apply w_eqS3F; rfl; rfl; rfl; omega) | (apply w_neS3T; rfl; rfl; rfl; omega) | (apply w_neS3F; rfl; rfl; rfl; omega) | (apply w_eqS3; rfl; rfl; rfl) | (apply w_neS3; rfl; rfl; rfl) | (apply w_eqS2; rfl; rfl; rfl) | (apply w_neS2; rfl; rfl; rfl) | (apply w_maxL; rfl; rfl; rfl; omega) | (apply w_maxG; rfl; rfl; rfl; omega) | (apply w_max; rfl; rfl; rfl) | (apply w_neB; rfl; rfl; rfl; rfl) | (apply w_eqB; rfl; rfl; rfl; rfl) | (apply w_strA; rfl; rfl; rfl; first | omega | (simp only [List.length_append, List.length_cons, List.length_nil]; omega)) | (apply w_strET; rfl; rfl; rfl; assumption) | (apply w_strEF; rfl; rfl; rfl; assumption) | (apply w_strNF; rfl; rfl; rfl; assumption) | (apply w_strNT; rfl; rfl; rfl; assumption) | (apply w_strE; rfl; rfl; rfl; rfl) | (apply w_strN; rfl; rfl; rfl; rfl) | (apply w_strL; rfl; rfl) | (apply w_fldV; rfl; rfl; rfl) | (apply w_ixA; rfl; rfl; rfl; omega; omega; assumption) | (apply w_cd; rfl; rfl; exact hCu _ inferInstance; ((exact kmf))) | (apply w_cd; rfl; rfl; exact hWd; ((exact kmf))) | (apply w_cd; rfl; rfl; exact hPr; ((exact kmf))) | (apply w_sa; rfl; rfl; rfl; exact hOc; ((focus ((repeat (first | exact .pt rfl | apply StAll.there)); done))); ((exact kmf))) | (apply w_cl; rfl; rfl; exact Lines_ok _ _; exact ⟨_, _, 0, rfl, rfl⟩; rintro _ _ ⟨bt, rfl, rfl⟩; refine ⟨by (exact kmf), ?_⟩) | (apply w_cl; rfl; rfl; exact SplitSeq_ok _ _; exact ⟨_, _, 0, 0, 0, rfl, rfl⟩; rintro _ _ ⟨c1, c2, c3, rfl, rfl⟩; refine ⟨by (exact kmf), ?_⟩) | refine spl ?_ ?_ | intro hc)
            all_goals first | (exfalso; omega) | skip
            all_goals exact At_round_normal (fun w h => hfold (ds, mu, f0) v2 w ho2 (Sel.sat (by (focus ((repeat (first | exact Sel.refl | (apply Sel.cons; (focus ((repeat (first | exact Del.here | apply Del.there)); done))) | refine Sel.drop ?_)); done))) h))
          · have hwc : (lw t).getD 0 [] ≠ [113, 117, 97, 110, 116, 117, 109] := hw3
            have hnx : hdNx (ds, mu, qu) t = (ds, mu, qu) := by
              unfold hdNx
              rw [if_neg hw1, if_neg hw2, if_neg hw3]
            rw [hnx]
            clear hw1 hw2 hw3 hnx hpm
            generalize (lw t).getD 0 [] = w0 at *
            (repeat' first | refine stp ?_ | intro v' hv' | intro (b : Nat) | (apply w_convU; rfl; rfl; omega; omega) | (apply w_convI; rfl; rfl; omega; omega) | (apply w_quoU; rfl; rfl; rfl; omega; omega; omega) | (apply w_remU; rfl; rfl; rfl; omega; omega) | (apply w_minL; rfl; rfl; rfl; omega) | (apply w_minG; rfl; rfl; rfl; omega) | (apply w_min; rfl; rfl; rfl) | (apply w_mfR; rfl; rfl) | (apply w_cvp; rfl; rfl; exact inferInstance; rfl; rfl; assumption) | (apply w_eqS2T; rfl; rfl; rfl; omega) | (apply w_eqS2F; rfl; rfl; rfl; omega) | (apply w_neS2T; rfl; rfl; rfl; omega) | (apply w_neS2F; rfl; rfl; rfl; omega) | (apply w_eqS3T; rfl; rfl; rfl; omega) | (apply w_eqS3F; rfl; rfl; rfl; omega) | (apply w_neS3T; rfl; rfl; rfl; omega) | (apply w_neS3F; rfl; rfl; rfl; omega) | (apply w_eqS3; rfl; rfl; rfl) | (apply w_neS3; rfl; rfl; rfl) | (apply w_eqS2; rfl; rfl; rfl) | (apply w_neS2; rfl; rfl; rfl) | (apply w_maxL; rfl; rfl; rfl; omega) | (apply w_maxG; rfl; rfl; rfl; omega) | (apply w_max; rfl; rfl; rfl) | (apply w_neB; rfl; rfl; rfl; rfl) | (apply w_eqB; rfl; rfl; rfl; rfl) | (apply w_strA; rfl; rfl; rfl; first | omega | (simp only [List.length_append, List.length_cons, List.length_nil]; omega)) | (apply w_strET; rfl; rfl; rfl; assumption) | (apply w_strEF; rfl; rfl; rfl; assumption) | (apply w_strNF; rfl; rfl; rfl; assumption) | (apply w_strNT; rfl; rfl; rfl; assumption) | (apply w_strE; rfl; rfl; rfl; rfl) | (apply w_strN; rfl; rfl; rfl; rfl) | (apply w_strL; rfl; rfl) | (apply w_fldV; rfl; rfl; rfl) | (apply w_ixA; rfl; rfl; rfl; omega; omega; assumption) | (apply w_cd; rfl; rfl; exact hCu _ inferInstance; ((exact kmf))) | (apply w_cd; rfl; rfl; exact hWd; ((exact kmf))) | (apply w_cd; rfl; rfl; exact hPr; ((exact kmf))) | (apply w_sa; rfl; rfl; rfl; exact hOc; ((focus ((repeat (first | exact .pt rfl | apply StAll.there)); done))); ((exact kmf))) | (apply w_cl; rfl; rfl; exact Lines_ok _ _; exact ⟨_, _, 0, rfl, rfl⟩; rintro _ _ ⟨bt, rfl, rfl⟩; refine ⟨by (exact kmf), ?_⟩) | (apply w_cl; rfl; rfl; exact SplitSeq_ok _ _; exact ⟨_, _, 0, 0, 0, rfl, rfl⟩; rintro _ _ ⟨c1, c2, c3, rfl, rfl⟩; refine ⟨by (exact kmf), ?_⟩) | refine spl ?_ ?_ | intro hc)
            all_goals first | (exfalso; omega) | skip
            all_goals exact At_round_normal (fun w h => hfold (ds, mu, qu) v2 w ho2 (Sel.sat (by (focus ((repeat (first | exact Sel.refl | (apply Sel.cons; (focus ((repeat (first | exact Del.here | apply Del.there)); done))) | refine Sel.drop ?_)); done))) h))
  · simp only [ends]
    clear hG
    generalize hdM hd = x at *
    obtain ⟨ds, mu, qu⟩ := x
    dsimp only at *
    by_cases hlen : hd.length < s.length
    · rw [if_pos hlen] at hpc
      (repeat' first | refine stp ?_ | intro v' hv' | intro (b : Nat) | (apply w_convU; rfl; rfl; omega; omega) | (apply w_convI; rfl; rfl; omega; omega) | (apply w_quoU; rfl; rfl; rfl; omega; omega; omega) | (apply w_remU; rfl; rfl; rfl; omega; omega) | (apply w_minL; rfl; rfl; rfl; omega) | (apply w_minG; rfl; rfl; rfl; omega) | (apply w_min; rfl; rfl; rfl) | (apply w_mfR; rfl; rfl) | (apply w_cvp; rfl; rfl; exact inferInstance; rfl; rfl; assumption) | (apply w_eqS2T; rfl; rfl; rfl; omega) | (apply w_eqS2F; rfl; rfl; rfl; omega) | (apply w_neS2T; rfl; rfl; rfl; omega) | (apply w_neS2F; rfl; rfl; rfl; omega) | (apply w_eqS3T; rfl; rfl; rfl; omega) | (apply w_eqS3F; rfl; rfl; rfl; omega) | (apply w_neS3T; rfl; rfl; rfl; omega) | (apply w_neS3F; rfl; rfl; rfl; omega) | (apply w_eqS3; rfl; rfl; rfl) | (apply w_neS3; rfl; rfl; rfl) | (apply w_eqS2; rfl; rfl; rfl) | (apply w_neS2; rfl; rfl; rfl) | (apply w_maxL; rfl; rfl; rfl; omega) | (apply w_maxG; rfl; rfl; rfl; omega) | (apply w_max; rfl; rfl; rfl) | (apply w_neB; rfl; rfl; rfl; rfl) | (apply w_eqB; rfl; rfl; rfl; rfl) | (apply w_strA; rfl; rfl; rfl; first | omega | (simp only [List.length_append, List.length_cons, List.length_nil]; omega)) | (apply w_strET; rfl; rfl; rfl; assumption) | (apply w_strEF; rfl; rfl; rfl; assumption) | (apply w_strNF; rfl; rfl; rfl; assumption) | (apply w_strNT; rfl; rfl; rfl; assumption) | (apply w_strE; rfl; rfl; rfl; rfl) | (apply w_strN; rfl; rfl; rfl; rfl) | (apply w_strL; rfl; rfl) | (apply w_fldV; rfl; rfl; rfl) | (apply w_ixA; rfl; rfl; rfl; omega; omega; assumption) | (apply w_cd; rfl; rfl; exact hCu _ inferInstance; ((exact kmf))) | (apply w_cd; rfl; rfl; exact hWd; ((exact kmf))) | (apply w_cd; rfl; rfl; exact hPr; ((exact kmf))) | (apply w_sa; rfl; rfl; rfl; exact hOc; ((focus ((repeat (first | exact .pt rfl | apply StAll.there)); done))); ((exact kmf))) | (apply w_cl; rfl; rfl; exact Lines_ok _ _; exact ⟨_, _, 0, rfl, rfl⟩; rintro _ _ ⟨bt, rfl, rfl⟩; refine ⟨by (exact kmf), ?_⟩) | (apply w_cl; rfl; rfl; exact SplitSeq_ok _ _; exact ⟨_, _, 0, 0, 0, rfl, rfl⟩; rintro _ _ ⟨c1, c2, c3, rfl, rfl⟩; refine ⟨by (exact kmf), ?_⟩) | refine spl ?_ ?_ | intro hc)
      all_goals first | (exfalso; omega) | skip
      refine C_sat (L' := spH c1 c2 c3 rs :: pcH b4 b2 b3 R ⟨ds, mu, qu, []⟩ 0 :: mblk r :: boxH bt :: []) (fun w hs => ?_) ?_
      · refine Sat.all_iff.2 ?_
        exact Sel.sat (by (focus ((repeat (first | exact Sel.refl | (apply Sel.cons; (focus ((repeat (first | exact Del.here | apply Del.there)); done))) | refine Sel.drop ?_)); done))) hs
      refine C_rangeTP (K := HasP) (A := fun x => pcH b4 b2 b3 R ⟨ds, mu, qu, x.1⟩ x.2) (s0 := ([], 0)) (step := pgStep) (dom := pgDom) rfl (fun s l r p X => hasP_pcH hV) (Split1_ok c1 c2 c3 rs (by omega)) rfl (fun s xs hd => by obtain ⟨x, rfl, -⟩ := hd; rfl) Sel.refl ?_ hGp fun r2 => ?_
      · clear hpc hGp hCu
        rintro lb r3 ⟨o, e⟩ xs J ⟨t, rfl, hlt, he, htl⟩
        dsimp only at hlt he
        subst he
        apply Exists.intro
        refine ⟨fun _ => fact True, fun Q r' hQ => ?_, fun b => ?_⟩
        · simp only [parF]
          have hCu : True := trivial
          (repeat' first | refine stp ?_ | intro v' hv' | intro (b : Nat) | (apply w_convU; rfl; rfl; omega; omega) | (apply w_convI; rfl; rfl; omega; omega) | (apply w_quoU; rfl; rfl; rfl; omega; omega; omega) | (apply w_remU; rfl; rfl; rfl; omega; omega) | (apply w_minL; rfl; rfl; rfl; omega) | (apply w_minG; rfl; rfl; rfl; omega) | (apply w_min; rfl; rfl; rfl) | (apply w_mfR; rfl; rfl) | (apply w_cvp; rfl; rfl; exact inferInstance; rfl; rfl; assumption) | (apply w_eqS2T; rfl; rfl; rfl; omega) | (apply w_eqS2F; rfl; rfl; rfl; omega) | (apply w_neS2T; rfl; rfl; rfl; omega) | (apply w_neS2F; rfl; rfl; rfl; omega) | (apply w_eqS3T; rfl; rfl; rfl; omega) | (apply w_eqS3F; rfl; rfl; rfl; omega) | (apply w_neS3T; rfl; rfl; rfl; omega) | (apply w_neS3F; rfl; rfl; rfl; omega) | (apply w_eqS3; rfl; rfl; rfl) | (apply w_neS3; rfl; rfl; rfl) | (apply w_eqS2; rfl; rfl; rfl) | (apply w_neS2; rfl; rfl; rfl) | (apply w_maxL; rfl; rfl; rfl; omega) | (apply w_maxG; rfl; rfl; rfl; omega) | (apply w_max; rfl; rfl; rfl) | (apply w_neB; rfl; rfl; rfl; rfl) | (apply w_eqB; rfl; rfl; rfl; rfl) | (apply w_strA; rfl; rfl; rfl; first | omega | (simp only [List.length_append, List.length_cons, List.length_nil]; omega)) | (apply w_strET; rfl; rfl; rfl; assumption) | (apply w_strEF; rfl; rfl; rfl; assumption) | (apply w_strNF; rfl; rfl; rfl; assumption) | (apply w_strNT; rfl; rfl; rfl; assumption) | (apply w_strE; rfl; rfl; rfl; rfl) | (apply w_strN; rfl; rfl; rfl; rfl) | (apply w_strL; rfl; rfl) | (apply w_fldV; rfl; rfl; rfl) | (apply w_ixA; rfl; rfl; rfl; omega; omega; assumption) | (apply w_cd; rfl; rfl; exact hCu _ inferInstance; ((exact kmf))) | (apply w_cd; rfl; rfl; exact hWd; ((exact kmf))) | (apply w_cd; rfl; rfl; exact hPr; ((exact kmf))) | (apply w_sa; rfl; rfl; rfl; exact hOc; ((focus ((repeat (first | exact .pt rfl | apply StAll.there)); done))); ((exact kmf))) | (apply w_cl; rfl; rfl; exact Lines_ok _ _; exact ⟨_, _, 0, rfl, rfl⟩; rintro _ _ ⟨bt, rfl, rfl⟩; refine ⟨by (exact kmf), ?_⟩) | (apply w_cl; rfl; rfl; exact SplitSeq_ok _ _; exact ⟨_, _, 0, 0, 0, rfl, rfl⟩; rintro _ _ ⟨c1, c2, c3, rfl, rfl⟩; refine ⟨by (exact kmf), ?_⟩) | refine spl ?_ ?_ | intro hc)
          obtain ⟨b, -⟩ : ∃ b : Nat, True := ⟨0, trivial⟩
          exact At_sat (fun w h => Sat.fact_iff.2 ⟨trivial, h⟩) (hQ b)
        · refine C_fact fun _ => ?_
          refine C_block ?_
          show C Tryd.prog _ _ (Exit.inBlock _ (RPost (pgNx (o, 0) t).1 (pcH b4 b2 b3 R ⟨ds, mu, qu, (pgNx (o, 0) t).2.1⟩ (pgNx (o, 0) t).2.2 :: blk lb (.loop r3) :: J))) _ _ _ _
          refine C_sat (L' := cfH b4 ⟨ds, mu, qu, o⟩ :: pt b2 45 [.slice none 0 0, int 0, int 0, .slice none 0 0] :: pt b3 30 [int 0] :: all R :: blk lb (.loop r3) :: J) (fun w hs => Sat.all_iff.1 hs) ?_
          refine C_cfH fun v2 u2 us2 ho hv2 hu2 => ?_
          obtain ⟨ho1, ho2, ho3⟩ := ho
          dsimp only at *
          have hlu := ho1.len
          have hfold : ∀ (x : List (List Ins) × Int) (u3 : Value) (us3 : List Value) (w : World), RowsOk us3 x.1 → x.1.length ≤ 200000 → Sat w (pt b4 45 [v2, int mu, int qu, u3] :: sl 49 3 v2 (ds.map plE) :: sl 86 1 u3 (us3.map uE) :: rowsT 88 us3 x.1 :: pt b2 45 [.slice none 0 0, int 0, int 0, .slice none 0 0] :: pt b3 30 [int x.2] :: all R :: blk lb (.loop r3) :: J) → Sat w (pcH b4 b2 b3 R ⟨ds, mu, qu, x.1⟩ x.2 :: blk lb (.loop r3) :: J) := fun x u3 us3 w hr hh hs => Sat.all_iff.2 (cfH_fold ⟨hr, ho2, hh⟩ hs)
          have hCu : True := trivial
          have hnx : pgNx (o, 0) t = if pgOk t then (none, (o ++ [(parseM t).1], 0)) else (some .ret, (o, 22)) := rfl
          have hPa := Parse_ok t (pt b4 45 [v2, int mu, int qu, u2] :: sl 49 3 v2 (ds.map plE) :: sl 86 1 u2 (us2.map uE) :: rowsT 88 us2 o :: pt b2 45 [.slice none 0 0, int 0, int 0, .slice none 0 0] :: pt b3 30 [int 0] :: all R :: blk lb (.loop r3) :: J) htl
          (repeat' first | refine stp ?_ | intro v' hv' | intro (b : Nat) | (apply w_convU; rfl; rfl; omega; omega) | (apply w_convI; rfl; rfl; omega; omega) | (apply w_quoU; rfl; rfl; rfl; omega; omega; omega) | (apply w_remU; rfl; rfl; rfl; omega; omega) | (apply w_minL; rfl; rfl; rfl; omega) | (apply w_minG; rfl; rfl; rfl; omega) | (apply w_min; rfl; rfl; rfl) | (apply w_mfR; rfl; rfl) | (apply w_cvp; rfl; rfl; exact inferInstance; rfl; rfl; assumption) | (apply w_eqS2T; rfl; rfl; rfl; omega) | (apply w_eqS2F; rfl; rfl; rfl; omega) | (apply w_neS2T; rfl; rfl; rfl; omega) | (apply w_neS2F; rfl; rfl; rfl; omega) | (apply w_eqS3T; rfl; rfl; rfl; omega) | (apply w_eqS3F; rfl; rfl; rfl; omega) | (apply w_neS3T; rfl; rfl; rfl; omega) | (apply w_neS3F; rfl; rfl; rfl; omega) | (apply w_eqS3; rfl; rfl; rfl) | (apply w_neS3; rfl; rfl; rfl) | (apply w_eqS2; rfl; rfl; rfl) | (apply w_neS2; rfl; rfl; rfl) | (apply w_maxL; rfl; rfl; rfl; omega) | (apply w_maxG; rfl; rfl; rfl; omega) | (apply w_max; rfl; rfl; rfl) | (apply w_neB; rfl; rfl; rfl; rfl) | (apply w_eqB; rfl; rfl; rfl; rfl) | (apply w_strA; rfl; rfl; rfl; first | omega | (simp only [List.length_append, List.length_cons, List.length_nil]; omega)) | (apply w_strET; rfl; rfl; rfl; assumption) | (apply w_strEF; rfl; rfl; rfl; assumption) | (apply w_strNF; rfl; rfl; rfl; assumption) | (apply w_strNT; rfl; rfl; rfl; assumption) | (apply w_strE; rfl; rfl; rfl; rfl) | (apply w_strN; rfl; rfl; rfl; rfl) | (apply w_strL; rfl; rfl) | (apply w_fldV; rfl; rfl; rfl) | (apply w_ixA; rfl; rfl; rfl; omega; omega; assumption) | (apply w_cd; rfl; rfl; exact hCu _ inferInstance; ((exact kmf))) | (apply w_cd; rfl; rfl; exact hWd; ((exact kmf))) | (apply w_cd; rfl; rfl; exact hPr; ((exact kmf))) | (apply w_sa; rfl; rfl; rfl; exact hOc; ((focus ((repeat (first | exact .pt rfl | apply StAll.there)); done))); ((exact kmf))) | (apply w_cl; rfl; rfl; exact Lines_ok _ _; exact ⟨_, _, 0, rfl, rfl⟩; rintro _ _ ⟨bt, rfl, rfl⟩; refine ⟨by (exact kmf), ?_⟩) | (apply w_cl; rfl; rfl; exact SplitSeq_ok _ _; exact ⟨_, _, 0, 0, 0, rfl, rfl⟩; rintro _ _ ⟨c1, c2, c3, rfl, rfl⟩; refine ⟨by (exact kmf), ?_⟩) | refine spl ?_ ?_ | intro hc)
          refine W_run (.inl rfl) rfl (cl rfl hPa) ?_
          unfold parP
          rintro _ _ ⟨p3, rfl, hp3, rfl⟩
          by_cases hok : pgOk t
          · rw [if_pos hok] at hnx
            rw [hnx]
            have hz : (parseM t).2 = 0 := hok
            rw [hz]
            clear hok hz hnx hPa
            generalize (parseM t).1 = q at *
            (repeat' first | refine stp ?_ | intro v' hv' | intro (b : Nat) | (apply w_convU; rfl; rfl; omega; omega) | (apply w_convI; rfl; rfl; omega; omega) | (apply w_quoU; rfl; rfl; rfl; omega; omega; omega) | (apply w_remU; rfl; rfl; rfl; omega; omega) | (apply w_minL; rfl; rfl; rfl; omega) | (apply w_minG; rfl; rfl; rfl; omega) | (apply w_min; rfl; rfl; rfl) | (apply w_mfR; rfl; rfl) | (apply w_cvp; rfl; rfl; exact inferInstance; rfl; rfl; assumption) | (apply w_eqS2T; rfl; rfl; rfl; omega) | (apply w_eqS2F; rfl; rfl; rfl; omega) | (apply w_neS2T; rfl; rfl; rfl; omega) | (apply w_neS2F; rfl; rfl; rfl; omega) | (apply w_eqS3T; rfl; rfl; rfl; omega) | (apply w_eqS3F; rfl; rfl; rfl; omega) | (apply w_neS3T; rfl; rfl; rfl; omega) | (apply w_neS3F; rfl; rfl; rfl; omega) | (apply w_eqS3; rfl; rfl; rfl) | (apply w_neS3; rfl; rfl; rfl) | (apply w_eqS2; rfl; rfl; rfl) | (apply w_neS2; rfl; rfl; rfl) | (apply w_maxL; rfl; rfl; rfl; omega) | (apply w_maxG; rfl; rfl; rfl; omega) | (apply w_max; rfl; rfl; rfl) | (apply w_neB; rfl; rfl; rfl; rfl) | (apply w_eqB; rfl; rfl; rfl; rfl) | (apply w_strA; rfl; rfl; rfl; first | omega | (simp only [List.length_append, List.length_cons, List.length_nil]; omega)) | (apply w_strET; rfl; rfl; rfl; assumption) | (apply w_strEF; rfl; rfl; rfl; assumption) | (apply w_strNF; rfl; rfl; rfl; assumption) | (apply w_strNT; rfl; rfl; rfl; assumption) | (apply w_strE; rfl; rfl; rfl; rfl) | (apply w_strN; rfl; rfl; rfl; rfl) | (apply w_strL; rfl; rfl) | (apply w_fldV; rfl; rfl; rfl) | (apply w_ixA; rfl; rfl; rfl; omega; omega; assumption) | (apply w_cd; rfl; rfl; exact hCu _ inferInstance; ((exact kmf))) | (apply w_cd; rfl; rfl; exact hWd; ((exact kmf))) | (apply w_cd; rfl; rfl; exact hPr; ((exact kmf))) | (apply w_sa; rfl; rfl; rfl; exact hOc; ((focus ((repeat (first | exact .pt rfl | apply StAll.there)); done))); ((exact kmf))) | (apply w_cl; rfl; rfl; exact Lines_ok _ _; exact ⟨_, _, 0, rfl, rfl⟩; rintro _ _ ⟨bt, rfl, rfl⟩; refine ⟨by (exact kmf), ?_⟩) | (apply w_cl; rfl; rfl; exact SplitSeq_ok _ _; exact ⟨_, _, 0, 0, 0, rfl, rfl⟩; rintro _ _ ⟨c1, c2, c3, rfl, rfl⟩; refine ⟨by (exact kmf), ?_⟩) | refine spl ?_ ?_ | intro hc)
            all_goals first | (exfalso; omega) | skip
            apply w_ap (es := [uE p3])
            rfl; rfl; rfl; ((focus ((repeat (first | exact Del.here | apply Del.there)); done))); ((exact srf)); (first | rfl | (simp [uE, hp3.one])); (simp; omega); (simp; omega)
            intro u3 hu3
            refine ⟨by (exact kmf), ?_⟩
            (repeat' first | refine stp ?_ | intro v' hv' | intro (b : Nat) | (apply w_convU; rfl; rfl; omega; omega) | (apply w_convI; rfl; rfl; omega; omega) | (apply w_quoU; rfl; rfl; rfl; omega; omega; omega) | (apply w_remU; rfl; rfl; rfl; omega; omega) | (apply w_minL; rfl; rfl; rfl; omega) | (apply w_minG; rfl; rfl; rfl; omega) | (apply w_min; rfl; rfl; rfl) | (apply w_mfR; rfl; rfl) | (apply w_cvp; rfl; rfl; exact inferInstance; rfl; rfl; assumption) | (apply w_eqS2T; rfl; rfl; rfl; omega) | (apply w_eqS2F; rfl; rfl; rfl; omega) | (apply w_neS2T; rfl; rfl; rfl; omega) | (apply w_neS2F; rfl; rfl; rfl; omega) | (apply w_eqS3T; rfl; rfl; rfl; omega) | (apply w_eqS3F; rfl; rfl; rfl; omega) | (apply w_neS3T; rfl; rfl; rfl; omega) | (apply w_neS3F; rfl; rfl; rfl; omega) | (apply w_eqS3; rfl; rfl; rfl) | (apply w_neS3; rfl; rfl; rfl) | (apply w_eqS2; rfl; rfl; rfl) | (apply w_neS2; rfl; rfl; rfl) | (apply w_maxL; rfl; rfl; rfl; omega) | (apply w_maxG; rfl; rfl; rfl; omega) | (apply w_max; rfl; rfl; rfl) | (apply w_neB; rfl; rfl; rfl; rfl) | (apply w_eqB; rfl; rfl; rfl; rfl) | (apply w_strA; rfl; rfl; rfl; first | omega | (simp only [List.length_append, List.length_cons, List.length_nil]; omega)) | (apply w_strET; rfl; rfl; rfl; assumption) | (apply w_strEF; rfl; rfl; rfl; assumption) | (apply w_strNF; rfl; rfl; rfl; assumption) | (apply w_strNT; rfl; rfl; rfl; assumption) | (apply w_strE; rfl; rfl; rfl; rfl) | (apply w_strN; rfl; rfl; rfl; rfl) | (apply w_strL; rfl; rfl) | (apply w_fldV; rfl; rfl; rfl) | (apply w_ixA; rfl; rfl; rfl; omega; omega; assumption) | (apply w_cd; rfl; rfl; exact hCu _ inferInstance; ((exact kmf))) | (apply w_cd; rfl; rfl; exact hWd; ((exact kmf))) | (apply w_cd; rfl; rfl; exact hPr; ((exact kmf))) | (apply w_sa; rfl; rfl; rfl; exact hOc; ((focus ((repeat (first | exact .pt rfl | apply StAll.there)); done))); ((exact kmf))) | (apply w_cl; rfl; rfl; exact Lines_ok _ _; exact ⟨_, _, 0, rfl, rfl⟩; rintro _ _ ⟨bt, rfl, rfl⟩; refine ⟨by (exact kmf), ?_⟩) | (apply w_cl; rfl; rfl; exact SplitSeq_ok _ _; exact ⟨_, _, 0, 0, 0, rfl, rfl⟩; rintro _ _ ⟨c1, c2, c3, rfl, rfl⟩; refine ⟨by (exact kmf), ?_⟩) | refine spl ?_ ?_ | intro hc)
            refine At_round_normal (fun w h => ?_)
            have h1 : Sat w (rowsT 88 us2 o :: sl 88 2 p3 (q.map insE) :: sl 86 1 u3 (us2.map uE ++ [uE p3]) :: pt b4 45 [v2, int mu, int qu, u3] :: sl 49 3 v2 (ds.map plE) :: pt b2 45 [.slice none 0 0, int 0, int 0, .slice none 0 0] :: pt b3 30 [int 0] :: all R :: blk lb (.loop r3) :: J) := Sel.sat (by (focus ((repeat (first | exact Sel.refl | (apply Sel.cons; (focus ((repeat (first | exact Del.here | apply Del.there)); done))) | refine Sel.drop ?_)); done))) h
            have h2 := rowsT_snoc hlu h1
            refine hfold (o ++ [q], 0) u3 (us2 ++ [p3]) w (ho1.snoc hp3) (by simp; omega) ?_
            dsimp only
            rw [List.map_append]
            exact Sel.sat (by (focus ((repeat (first | exact Sel.refl | (apply Sel.cons; (focus ((repeat (first | exact Del.here | apply Del.there)); done))) | refine Sel.drop ?_)); done))) h2
          · rw [if_neg hok] at hnx
            rw [hnx]
            have hz : ¬ (parseM t).2 = 0 := hok
            clear hok hnx hPa
            generalize (parseM t).2 = e at *
            generalize (parseM t).1 = q at *
            (repeat' first | refine stp ?_ | intro v' hv' | intro (b : Nat) | (apply w_convU; rfl; rfl; omega; omega) | (apply w_convI; rfl; rfl; omega; omega) | (apply w_quoU; rfl; rfl; rfl; omega; omega; omega) | (apply w_remU; rfl; rfl; rfl; omega; omega) | (apply w_minL; rfl; rfl; rfl; omega) | (apply w_minG; rfl; rfl; rfl; omega) | (apply w_min; rfl; rfl; rfl) | (apply w_mfR; rfl; rfl) | (apply w_cvp; rfl; rfl; exact inferInstance; rfl; rfl; assumption) | (apply w_eqS2T; rfl; rfl; rfl; omega) | (apply w_eqS2F; rfl; rfl; rfl; omega) | (apply w_neS2T; rfl; rfl; rfl; omega) | (apply w_neS2F; rfl; rfl; rfl; omega) | (apply w_eqS3T; rfl; rfl; rfl; omega) | (apply w_eqS3F; rfl; rfl; rfl; omega) | (apply w_neS3T; rfl; rfl; rfl; omega) | (apply w_neS3F; rfl; rfl; rfl; omega) | (apply w_eqS3; rfl; rfl; rfl) | (apply w_neS3; rfl; rfl; rfl) | (apply w_eqS2; rfl; rfl; rfl) | (apply w_neS2; rfl; rfl; rfl) | (apply w_maxL; rfl; rfl; rfl; omega) | (apply w_maxG; rfl; rfl; rfl; omega) | (apply w_max; rfl; rfl; rfl) | (apply w_neB; rfl; rfl; rfl; rfl) | (apply w_eqB; rfl; rfl; rfl; rfl) | (apply w_strA; rfl; rfl; rfl; first | omega | (simp only [List.length_append, List.length_cons, List.length_nil]; omega)) | (apply w_strET; rfl; rfl; rfl; assumption) | (apply w_strEF; rfl; rfl; rfl; assumption) | (apply w_strNF; rfl; rfl; rfl; assumption) | (apply w_strNT; rfl; rfl; rfl; assumption) | (apply w_strE; rfl; rfl; rfl; rfl) | (apply w_strN; rfl; rfl; rfl; rfl) | (apply w_strL; rfl; rfl) | (apply w_fldV; rfl; rfl; rfl) | (apply w_ixA; rfl; rfl; rfl; omega; omega; assumption) | (apply w_cd; rfl; rfl; exact hCu _ inferInstance; ((exact kmf))) | (apply w_cd; rfl; rfl; exact hWd; ((exact kmf))) | (apply w_cd; rfl; rfl; exact hPr; ((exact kmf))) | (apply w_sa; rfl; rfl; rfl; exact hOc; ((focus ((repeat (first | exact .pt rfl | apply StAll.there)); done))); ((exact kmf))) | (apply w_cl; rfl; rfl; exact Lines_ok _ _; exact ⟨_, _, 0, rfl, rfl⟩; rintro _ _ ⟨bt, rfl, rfl⟩; refine ⟨by (exact kmf), ?_⟩) | (apply w_cl; rfl; rfl; exact SplitSeq_ok _ _; exact ⟨_, _, 0, 0, 0, rfl, rfl⟩; rintro _ _ ⟨c1, c2, c3, rfl, rfl⟩; refine ⟨by (exact kmf), ?_⟩) | refine spl ?_ ?_ | intro hc)
            all_goals first | (exfalso; omega) | skip
            all_goals exact At_round_ret (fun w hs => hfold (o, 22) u2 us2 w ho1 ho3 (Sel.sat (by (focus ((repeat (first | exact Sel.refl | (apply Sel.cons; (focus ((repeat (first | exact Del.here | apply Del.there)); done))) | refine Sel.drop ?_)); done))) hs))
      · by_cases hgood : ∀ t ∈ pcs rs, pgOk t
        · rw [if_pos hgood] at hpc
          have hfs := pg_good (x := ([], 0)) hgood
          rw [List.nil_append] at hfs
          rw [hfs]
          simp only [ends]
          clear hfs hgood hGp
          generalize (pcs rs).map (fun t => (parseM t).1) = lib at *
          (repeat' first | refine stp ?_ | intro v' hv' | intro (b : Nat) | (apply w_convU; rfl; rfl; omega; omega) | (apply w_convI; rfl; rfl; omega; omega) | (apply w_quoU; rfl; rfl; rfl; omega; omega; omega) | (apply w_remU; rfl; rfl; rfl; omega; omega) | (apply w_minL; rfl; rfl; rfl; omega) | (apply w_minG; rfl; rfl; rfl; omega) | (apply w_min; rfl; rfl; rfl) | (apply w_mfR; rfl; rfl) | (apply w_cvp; rfl; rfl; exact inferInstance; rfl; rfl; assumption) | (apply w_eqS2T; rfl; rfl; rfl; omega) | (apply w_eqS2F; rfl; rfl; rfl; omega) | (apply w_neS2T; rfl; rfl; rfl; omega) | (apply w_neS2F; rfl; rfl; rfl; omega) | (apply w_eqS3T; rfl; rfl; rfl; omega) | (apply w_eqS3F; rfl; rfl; rfl; omega) | (apply w_neS3T; rfl; rfl; rfl; omega) | (apply w_neS3F; rfl; rfl; rfl; omega) | (apply w_eqS3; rfl; rfl; rfl) | (apply w_neS3; rfl; rfl; rfl) | (apply w_eqS2; rfl; rfl; rfl) | (apply w_neS2; rfl; rfl; rfl) | (apply w_maxL; rfl; rfl; rfl; omega) | (apply w_maxG; rfl; rfl; rfl; omega) | (apply w_max; rfl; rfl; rfl) | (apply w_neB; rfl; rfl; rfl; rfl) | (apply w_eqB; rfl; rfl; rfl; rfl) | (apply w_strA; rfl; rfl; rfl; first | omega | (simp only [List.length_append, List.length_cons, List.length_nil]; omega)) | (apply w_strET; rfl; rfl; rfl; assumption) | (apply w_strEF; rfl; rfl; rfl; assumption) | (apply w_strNF; rfl; rfl; rfl; assumption) | (apply w_strNT; rfl; rfl; rfl; assumption) | (apply w_strE; rfl; rfl; rfl; rfl) | (apply w_strN; rfl; rfl; rfl; rfl) | (apply w_strL; rfl; rfl) | (apply w_fldV; rfl; rfl; rfl) | (apply w_ixA; rfl; rfl; rfl; omega; omega; assumption) | (apply w_cd; rfl; rfl; exact hCu _ inferInstance; ((exact kmf))) | (apply w_cd; rfl; rfl; exact hWd; ((exact kmf))) | (apply w_cd; rfl; rfl; exact hPr; ((exact kmf))) | (apply w_sa; rfl; rfl; rfl; exact hOc; ((focus ((repeat (first | exact .pt rfl | apply StAll.there)); done))); ((exact kmf))) | (apply w_cl; rfl; rfl; exact Lines_ok _ _; exact ⟨_, _, 0, rfl, rfl⟩; rintro _ _ ⟨bt, rfl, rfl⟩; refine ⟨by (exact kmf), ?_⟩) | (apply w_cl; rfl; rfl; exact SplitSeq_ok _ _; exact ⟨_, _, 0, 0, 0, rfl, rfl⟩; rintro _ _ ⟨c1, c2, c3, rfl, rfl⟩; refine ⟨by (exact kmf), ?_⟩) | refine spl ?_ ?_ | intro hc)
          refine W_sat (L' := cfH b4 ⟨ds, mu, qu, lib⟩ :: pt b2 45 [.slice none 0 0, int 0, int 0, .slice none 0 0] :: pt b3 30 [int 0] :: all R :: mblk r2 :: spE c1 c2 c3 :: mblk r :: boxH bt :: []) (fun w hs => ?_) ?_
          · have h1 : Sat w (pcH b4 b2 b3 R ⟨ds, mu, qu, lib⟩ 0 :: mblk r2 :: spE c1 c2 c3 :: mblk r :: boxH bt :: []) := Sel.sat (by (focus ((repeat (first | exact Sel.refl | (apply Sel.cons; (focus ((repeat (first | exact Del.here | apply Del.there)); done))) | refine Sel.drop ?_)); done))) hs
            exact Sat.all_iff.1 h1
          refine W_cfH fun v2 u2 us2 ho hv2 hu2 => ?_
          have hIn : CfIn (pt b4 45 [v2, int mu, int qu, u2] :: sl 49 3 v2 (ds.map plE) :: sl 86 1 u2 (us2.map uE) :: rowsT 88 us2 lib :: pt b2 45 [.slice none 0 0, int 0, int 0, .slice none 0 0] :: pt b3 30 [int 0] :: all R :: mblk r2 :: spE c1 c2 c3 :: mblk r :: boxH bt :: []) v2 u2 us2 ⟨ds, mu, qu, lib⟩ := (cfIn_own ho.1 hv2 hu2).there
          clear hPr
          have hPr : Called Tryd.prog 16 [.agg #[v2, int mu, int qu, u2]] (pt b4 45 [v2, int mu, int qu, u2] :: sl 49 3 v2 (ds.map plE) :: sl 86 1 u2 (us2.map uE) :: rowsT 88 us2 lib :: pt b2 45 [.slice none 0 0, int 0, int 0, .slice none 0 0] :: pt b3 30 [int 0] :: all R :: mblk r2 :: spE c1 c2 c3 :: mblk r :: boxH bt :: []) (is (.tuple #[str (printC ⟨ds, mu, qu, lib⟩).1, int (printC ⟨ds, mu, qu, lib⟩).2]) (pt b4 45 [v2, int mu, int qu, u2] :: sl 49 3 v2 (ds.map plE) :: sl 86 1 u2 (us2.map uE) :: rowsT 88 us2 lib :: pt b2 45 [.slice none 0 0, int 0, int 0, .slice none 0 0] :: pt b3 30 [int 0] :: all R :: mblk r2 :: spE c1 c2 c3 :: mblk r :: boxH bt :: [])) := sPrintC_ok v2 u2 us2 ⟨ds, mu, qu, lib⟩ _ hIn ho.2.1 ho.2.2
          have hck : chkC s ⟨ds, mu, qu, lib⟩ = if printC ⟨ds, mu, qu, lib⟩ = (s, 0) then (⟨ds, mu, qu, lib⟩, 0) else (cfg0, 22) := rfl
          generalize printC ⟨ds, mu, qu, lib⟩ = pr at *
          obtain ⟨tx, e⟩ := pr
          dsimp only at hPr
          by_cases hgo : e = 0 ∧ tx = s
          · obtain ⟨rfl, rfl⟩ := hgo
            rw [if_pos rfl] at hck
            rw [hck] at hpc
            subst hpc
            have htt : tx = tx := rfl
            clear hOc
            have hOc : [v2, int mu, int qu, u2].all Value.oneCell' = true := by
              simp only [List.all_cons, List.all_nil, hv2.one, hu2.one]
              rfl
            (repeat' first | refine stp ?_ | intro v' hv' | intro (b : Nat) | (apply w_convU; rfl; rfl; omega; omega) | (apply w_convI; rfl; rfl; omega; omega) | (apply w_quoU; rfl; rfl; rfl; omega; omega; omega) | (apply w_remU; rfl; rfl; rfl; omega; omega) | (apply w_minL; rfl; rfl; rfl; omega) | (apply w_minG; rfl; rfl; rfl; omega) | (apply w_min; rfl; rfl; rfl) | (apply w_mfR; rfl; rfl) | (apply w_cvp; rfl; rfl; exact inferInstance; rfl; rfl; assumption) | (apply w_eqS2T; rfl; rfl; rfl; omega) | (apply w_eqS2F; rfl; rfl; rfl; omega) | (apply w_neS2T; rfl; rfl; rfl; omega) | (apply w_neS2F; rfl; rfl; rfl; omega) | (apply w_eqS3T; rfl; rfl; rfl; omega) | (apply w_eqS3F; rfl; rfl; rfl; omega) | (apply w_neS3T; rfl; rfl; rfl; omega) | (apply w_neS3F; rfl; rfl; rfl; omega) | (apply w_eqS3; rfl; rfl; rfl) | (apply w_neS3; rfl; rfl; rfl) | (apply w_eqS2; rfl; rfl; rfl) | (apply w_neS2; rfl; rfl; rfl) | (apply w_maxL; rfl; rfl; rfl; omega) | (apply w_maxG; rfl; rfl; rfl; omega) | (apply w_max; rfl; rfl; rfl) | (apply w_neB; rfl; rfl; rfl; rfl) | (apply w_eqB; rfl; rfl; rfl; rfl) | (apply w_strA; rfl; rfl; rfl; first | omega | (simp only [List.length_append, List.length_cons, List.length_nil]; omega)) | (apply w_strET; rfl; rfl; rfl; assumption) | (apply w_strEF; rfl; rfl; rfl; assumption) | (apply w_strNF; rfl; rfl; rfl; assumption) | (apply w_strNT; rfl; rfl; rfl; assumption) | (apply w_strE; rfl; rfl; rfl; rfl) | (apply w_strN; rfl; rfl; rfl; rfl) | (apply w_strL; rfl; rfl) | (apply w_fldV; rfl; rfl; rfl) | (apply w_ixA; rfl; rfl; rfl; omega; omega; assumption) | (apply w_cd; rfl; rfl; exact hCu _ inferInstance; ((exact kmf))) | (apply w_cd; rfl; rfl; exact hWd; ((exact kmf))) | (apply w_cd; rfl; rfl; exact hPr; ((exact kmf))) | (apply w_sa; rfl; rfl; rfl; exact hOc; ((focus ((repeat (first | exact .pt rfl | apply StAll.there)); done))); ((exact kmf))) | (apply w_cl; rfl; rfl; exact Lines_ok _ _; exact ⟨_, _, 0, rfl, rfl⟩; rintro _ _ ⟨bt, rfl, rfl⟩; refine ⟨by (exact kmf), ?_⟩) | (apply w_cl; rfl; rfl; exact SplitSeq_ok _ _; exact ⟨_, _, 0, 0, 0, rfl, rfl⟩; rintro _ _ ⟨c1, c2, c3, rfl, rfl⟩; refine ⟨by (exact kmf), ?_⟩) | refine spl ?_ ?_ | intro hc)
            all_goals first | (exfalso; omega) | skip
            all_goals refine AtM_retR (vs := [.agg #[v2, int mu, int qu, u2], int 0]) (by (first | exact .inl rfl | exact .inr rfl)) (by (focus ((repeat (first | exact Taken.nil | (apply Taken.cons; (focus ((repeat (first | exact Del.here | apply Del.there)); done))))); done))) Tryd.results19 (by (focus ((repeat (first | exact ResR.nil | (apply ResR.tmp; rfl) | (apply ResR.one; rfl; (focus ((repeat (first | assumption | exact .pt rfl | exact .sl ‹_› rfl | exact .sl1 (by first | assumption | rfl) | apply Rd.there)); done))) | (apply ResR.agg; rfl; (focus ((repeat (first | assumption | exact .pt | exact .sl ‹_› | apply RdAll.there)); done)); rfl))); done))) ⟨v2, u2, us2, rfl, ho.1, hv2, hu2, rfl⟩ (fun w hs => ?_)
            all_goals
              have h1 : Sat w (all R :: sl 49 3 v2 (ds.map plE) :: sl 86 1 u2 (us2.map uE) :: rowsT 88 us2 lib :: []) := Sel.sat (by (focus ((repeat (first | exact Sel.refl | (apply Sel.cons; (focus ((repeat (first | exact Del.here | apply Del.there)); done))) | refine Sel.drop ?_)); done))) hs
              exact (hout h1).perm List.perm_append_comm
          · rw [if_neg (fun hh => hgo ⟨(Prod.mk.inj hh).2, (Prod.mk.inj hh).1⟩)] at hck
            rw [hck] at hpc
            subst hpc
            by_cases he : e = 0
            · have htt : tx ≠ s := fun hh => hgo ⟨he, hh⟩
              (repeat' first | refine stp ?_ | intro v' hv' | intro (b : Nat) | (apply w_convU; rfl; rfl; omega; omega) | (apply w_convI; rfl; rfl; omega; omega) | (apply w_quoU; rfl; rfl; rfl; omega; omega; omega) | (apply w_remU; rfl; rfl; rfl; omega; omega) | (apply w_minL; rfl; rfl; rfl; omega) | (apply w_minG; rfl; rfl; rfl; omega) | (apply w_min; rfl; rfl; rfl) | (apply w_mfR; rfl; rfl) | (apply w_cvp; rfl; rfl; exact inferInstance; rfl; rfl; assumption) | (apply w_eqS2T; rfl; rfl; rfl; omega) | (apply w_eqS2F; rfl; rfl; rfl; omega) | (apply w_neS2T; rfl; rfl; rfl; omega) | (apply w_neS2F; rfl; rfl; rfl; omega) | (apply w_eqS3T; rfl; rfl; rfl; omega) | (apply w_eqS3F; rfl; rfl; rfl; omega) | (apply w_neS3T; rfl; rfl; rfl; omega) | (apply w_neS3F; rfl; rfl; rfl; omega) | (apply w_eqS3; rfl; rfl; rfl) | (apply w_neS3; rfl; rfl; rfl) | (apply w_eqS2; rfl; rfl; rfl) | (apply w_neS2; rfl; rfl; rfl) | (apply w_maxL; rfl; rfl; rfl; omega) | (apply w_maxG; rfl; rfl; rfl; omega) | (apply w_max; rfl; rfl; rfl) | (apply w_neB; rfl; rfl; rfl; rfl) | (apply w_eqB; rfl; rfl; rfl; rfl) | (apply w_strA; rfl; rfl; rfl; first | omega | (simp only [List.length_append, List.length_cons, List.length_nil]; omega)) | (apply w_strET; rfl; rfl; rfl; assumption) | (apply w_strEF; rfl; rfl; rfl; assumption) | (apply w_strNF; rfl; rfl; rfl; assumption) | (apply w_strNT; rfl; rfl; rfl; assumption) | (apply w_strE; rfl; rfl; rfl; rfl) | (apply w_strN; rfl; rfl; rfl; rfl) | (apply w_strL; rfl; rfl) | (apply w_fldV; rfl; rfl; rfl) | (apply w_ixA; rfl; rfl; rfl; omega; omega; assumption) | (apply w_cd; rfl; rfl; exact hCu _ inferInstance; ((exact kmf))) | (apply w_cd; rfl; rfl; exact hWd; ((exact kmf))) | (apply w_cd; rfl; rfl; exact hPr; ((exact kmf))) | (apply w_sa; rfl; rfl; rfl; exact hOc; ((focus ((repeat (first | exact .pt rfl | apply StAll.there)); done))); ((exact kmf))) | (apply w_cl; rfl; rfl; exact Lines_ok _ _; exact ⟨_, _, 0, rfl, rfl⟩; rintro _ _ ⟨bt, rfl, rfl⟩; refine ⟨by (exact kmf), ?_⟩) | (apply w_cl; rfl; rfl; exact SplitSeq_ok _ _; exact ⟨_, _, 0, 0, 0, rfl, rfl⟩; rintro _ _ ⟨c1, c2, c3, rfl, rfl⟩; refine ⟨by (exact kmf), ?_⟩) | refine spl ?_ ?_ | intro hc)
              all_goals first | (exfalso; omega) | skip
              all_goals refine AtM_retR (vs := [.agg #[.slice none 0 0, int 0, int 0, .slice none 0 0], int 22]) (by (first | exact .inl rfl | exact .inr rfl)) (by (focus ((repeat (first | exact Taken.nil | (apply Taken.cons; (focus ((repeat (first | exact Del.here | apply Del.there)); done))))); done))) Tryd.results19 (by (focus ((repeat (first | exact ResR.nil | (apply ResR.tmp; rfl) | (apply ResR.one; rfl; (focus ((repeat (first | assumption | exact .pt rfl | exact .sl ‹_› rfl | exact .sl1 (by first | assumption | rfl) | apply Rd.there)); done))) | (apply ResR.agg; rfl; (focus ((repeat (first | assumption | exact .pt | exact .sl ‹_› | apply RdAll.there)); done)); rfl))); done))) ⟨_, _, [], rfl, RowsOk.nil, IsSl.nil, IsSl.nil, rfl⟩ (fun w hs => ?_)
              all_goals
                have h1 : Sat w (all R :: []) := Sel.sat (by (focus ((repeat (first | exact Sel.refl | (apply Sel.cons; (focus ((repeat (first | exact Del.here | apply Del.there)); done))) | refine Sel.drop ?_)); done))) hs
                have h2 := hout h1
                rw [List.append_nil] at h2
                exact cfg0_fold h2
            · (repeat' first | refine stp ?_ | intro v' hv' | intro (b : Nat) | (apply w_convU; rfl; rfl; omega; omega) | (apply w_convI; rfl; rfl; omega; omega) | (apply w_quoU; rfl; rfl; rfl; omega; omega; omega) | (apply w_remU; rfl; rfl; rfl; omega; omega) | (apply w_minL; rfl; rfl; rfl; omega) | (apply w_minG; rfl; rfl; rfl; omega) | (apply w_min; rfl; rfl; rfl) | (apply w_mfR; rfl; rfl) | (apply w_cvp; rfl; rfl; exact inferInstance; rfl; rfl; assumption) | (apply w_eqS2T; rfl; rfl; rfl; omega) | (apply w_eqS2F; rfl; rfl; rfl; omega) | (apply w_neS2T; rfl; rfl; rfl; omega) | (apply w_neS2F; rfl; rfl; rfl; omega) | (apply w_eqS3T; rfl; rfl; rfl; omega) | (apply w_eqS3F; rfl; rfl; rfl; omega) | (apply w_neS3T; rfl; rfl; rfl; omega) | (apply w_neS3F; rfl; rfl; rfl; omega) | (apply w_eqS3; rfl; rfl; rfl) | (apply w_neS3; rfl; rfl; rfl) | (apply w_eqS2; rfl; rfl; rfl) | (apply w_neS2; rfl; rfl; rfl) | (apply w_maxL; rfl; rfl; rfl; omega) | (apply w_maxG; rfl; rfl; rfl; omega) | (apply w_max; rfl; rfl; rfl) | (apply w_neB; rfl; rfl; rfl; rfl) | (apply w_eqB; rfl; rfl; rfl; rfl) | (apply w_strA; rfl; rfl; rfl; first | omega | (simp only [List.length_append, List.length_cons, List.length_nil]; omega)) | (apply w_strET; rfl; rfl; rfl; assumption) | (apply w_strEF; rfl; rfl; rfl; assumption) | (apply w_strNF; rfl; rfl; rfl; assumption) | (apply w_strNT; rfl; rfl; rfl; assumption) | (apply w_strE; rfl; rfl; rfl; rfl) | (apply w_strN; rfl; rfl; rfl; rfl) | (apply w_strL; rfl; rfl) | (apply w_fldV; rfl; rfl; rfl) | (apply w_ixA; rfl; rfl; rfl; omega; omega; assumption) | (apply w_cd; rfl; rfl; exact hCu _ inferInstance; ((exact kmf))) | (apply w_cd; rfl; rfl; exact hWd; ((exact kmf))) | (apply w_cd; rfl; rfl; exact hPr; ((exact kmf))) | (apply w_sa; rfl; rfl; rfl; exact hOc; ((focus ((repeat (first | exact .pt rfl | apply StAll.there)); done))); ((exact kmf))) | (apply w_cl; rfl; rfl; exact Lines_ok _ _; exact ⟨_, _, 0, rfl, rfl⟩; rintro _ _ ⟨bt, rfl, rfl⟩; refine ⟨by (exact kmf), ?_⟩) | (apply w_cl; rfl; rfl; exact SplitSeq_ok _ _; exact ⟨_, _, 0, 0, 0, rfl, rfl⟩; rintro _ _ ⟨c1, c2, c3, rfl, rfl⟩; refine ⟨by (exact kmf), ?_⟩) | refine spl ?_ ?_ | intro hc)
              all_goals first | (exfalso; omega) | skip
              all_goals refine AtM_retR (vs := [.agg #[.slice none 0 0, int 0, int 0, .slice none 0 0], int 22]) (by (first | exact .inl rfl | exact .inr rfl)) (by (focus ((repeat (first | exact Taken.nil | (apply Taken.cons; (focus ((repeat (first | exact Del.here | apply Del.there)); done))))); done))) Tryd.results19 (by (focus ((repeat (first | exact ResR.nil | (apply ResR.tmp; rfl) | (apply ResR.one; rfl; (focus ((repeat (first | assumption | exact .pt rfl | exact .sl ‹_› rfl | exact .sl1 (by first | assumption | rfl) | apply Rd.there)); done))) | (apply ResR.agg; rfl; (focus ((repeat (first | assumption | exact .pt | exact .sl ‹_› | apply RdAll.there)); done)); rfl))); done))) ⟨_, _, [], rfl, RowsOk.nil, IsSl.nil, IsSl.nil, rfl⟩ (fun w hs => ?_)
              all_goals
                have h1 : Sat w (all R :: []) := Sel.sat (by (focus ((repeat (first | exact Sel.refl | (apply Sel.cons; (focus ((repeat (first | exact Del.here | apply Del.there)); done))) | refine Sel.drop ?_)); done))) hs
                have h2 := hout h1
                rw [List.append_nil] at h2
                exact cfg0_fold h2
        · rw [if_neg hgood] at hpc
          subst hpc
          obtain ⟨q, hfs⟩ := pg_bad (x := ([], 0)) hgood
          rw [hfs]
          simp only [ends]
          refine C_sat (L' := cfH b4 ⟨ds, mu, qu, q⟩ :: pt b2 45 [.slice none 0 0, int 0, int 0, .slice none 0 0] :: pt b3 30 [int 22] :: all R :: mblk r2 :: spE c1 c2 c3 :: mblk r :: boxH bt :: []) (fun w hs => ?_) ?_
          · have h1 : Sat w (pcH b4 b2 b3 R ⟨ds, mu, qu, q⟩ 22 :: mblk r2 :: spE c1 c2 c3 :: mblk r :: boxH bt :: []) := Sel.sat (by (focus ((repeat (first | exact Sel.refl | (apply Sel.cons; (focus ((repeat (first | exact Del.here | apply Del.there)); done))) | refine Sel.drop ?_)); done))) hs
            exact Sat.all_iff.1 h1
          (repeat' first | refine stp ?_ | intro v' hv' | intro (b : Nat) | (apply w_convU; rfl; rfl; omega; omega) | (apply w_convI; rfl; rfl; omega; omega) | (apply w_quoU; rfl; rfl; rfl; omega; omega; omega) | (apply w_remU; rfl; rfl; rfl; omega; omega) | (apply w_minL; rfl; rfl; rfl; omega) | (apply w_minG; rfl; rfl; rfl; omega) | (apply w_min; rfl; rfl; rfl) | (apply w_mfR; rfl; rfl) | (apply w_cvp; rfl; rfl; exact inferInstance; rfl; rfl; assumption) | (apply w_eqS2T; rfl; rfl; rfl; omega) | (apply w_eqS2F; rfl; rfl; rfl; omega) | (apply w_neS2T; rfl; rfl; rfl; omega) | (apply w_neS2F; rfl; rfl; rfl; omega) | (apply w_eqS3T; rfl; rfl; rfl; omega) | (apply w_eqS3F; rfl; rfl; rfl; omega) | (apply w_neS3T; rfl; rfl; rfl; omega) | (apply w_neS3F; rfl; rfl; rfl; omega) | (apply w_eqS3; rfl; rfl; rfl) | (apply w_neS3; rfl; rfl; rfl) | (apply w_eqS2; rfl; rfl; rfl) | (apply w_neS2; rfl; rfl; rfl) | (apply w_maxL; rfl; rfl; rfl; omega) | (apply w_maxG; rfl; rfl; rfl; omega) | (apply w_max; rfl; rfl; rfl) | (apply w_neB; rfl; rfl; rfl; rfl) | (apply w_eqB; rfl; rfl; rfl; rfl) | (apply w_strA; rfl; rfl; rfl; first | omega | (simp only [List.length_append, List.length_cons, List.length_nil]; omega)) | (apply w_strET; rfl; rfl; rfl; assumption) | (apply w_strEF; rfl; rfl; rfl; assumption) | (apply w_strNF; rfl; rfl; rfl; assumption) | (apply w_strNT; rfl; rfl; rfl; assumption) | (apply w_strE; rfl; rfl; rfl; rfl) | (apply w_strN; rfl; rfl; rfl; rfl) | (apply w_strL; rfl; rfl) | (apply w_fldV; rfl; rfl; rfl) | (apply w_ixA; rfl; rfl; rfl; omega; omega; assumption) | (apply w_cd; rfl; rfl; exact hCu _ inferInstance; ((exact kmf))) | (apply w_cd; rfl; rfl; exact hWd; ((exact kmf))) | (apply w_cd; rfl; rfl; exact hPr; ((exact kmf))) | (apply w_sa; rfl; rfl; rfl; exact hOc; ((focus ((repeat (first | exact .pt rfl | apply StAll.there)); done))); ((exact kmf))) | (apply w_cl; rfl; rfl; exact Lines_ok _ _; exact ⟨_, _, 0, rfl, rfl⟩; rintro _ _ ⟨bt, rfl, rfl⟩; refine ⟨by (exact kmf), ?_⟩) | (apply w_cl; rfl; rfl; exact SplitSeq_ok _ _; exact ⟨_, _, 0, 0, 0, rfl, rfl⟩; rintro _ _ ⟨c1, c2, c3, rfl, rfl⟩; refine ⟨by (exact kmf), ?_⟩) | refine spl ?_ ?_ | intro hc)
          refine AtM_retR (vs := [.agg #[.slice none 0 0, int 0, int 0, .slice none 0 0], int 22]) (by (first | exact .inl rfl | exact .inr rfl)) (by (focus ((repeat (first | exact Taken.nil | (apply Taken.cons; (focus ((repeat (first | exact Del.here | apply Del.there)); done))))); done))) Tryd.results19 (by (focus ((repeat (first | exact ResR.nil | (apply ResR.tmp; rfl) | (apply ResR.one; rfl; (focus ((repeat (first | assumption | exact .pt rfl | exact .sl ‹_› rfl | exact .sl1 (by first | assumption | rfl) | apply Rd.there)); done))) | (apply ResR.agg; rfl; (focus ((repeat (first | assumption | exact .pt | exact .sl ‹_› | apply RdAll.there)); done)); rfl))); done))) ⟨_, _, [], rfl, RowsOk.nil, IsSl.nil, IsSl.nil, rfl⟩ (fun w hs => ?_)
          have h1 : Sat w (all R :: []) := Sel.sat (by (focus ((repeat (first | exact Sel.refl | (apply Sel.cons; (focus ((repeat (first | exact Del.here | apply Del.there)); done))) | refine Sel.drop ?_)); done))) hs
          have h2 := hout h1
          rw [List.append_nil] at h2
          exact cfg0_fold h2
    · rw [if_neg hlen] at hpc
      (repeat' first | refine stp ?_ | intro v' hv' | intro (b : Nat) | (apply w_convU; rfl; rfl; omega; omega) | (apply w_convI; rfl; rfl; omega; omega) | (apply w_quoU; rfl; rfl; rfl; omega; omega; omega) | (apply w_remU; rfl; rfl; rfl; omega; omega) | (apply w_minL; rfl; rfl; rfl; omega) | (apply w_minG; rfl; rfl; rfl; omega) | (apply w_min; rfl; rfl; rfl) | (apply w_mfR; rfl; rfl) | (apply w_cvp; rfl; rfl; exact inferInstance; rfl; rfl; assumption) | (apply w_eqS2T; rfl; rfl; rfl; omega) | (apply w_eqS2F; rfl; rfl; rfl; omega) | (apply w_neS2T; rfl; rfl; rfl; omega) | (apply w_neS2F; rfl; rfl; rfl; omega) | (apply w_eqS3T; rfl; rfl; rfl; omega) | (apply w_eqS3F; rfl; rfl; rfl; omega) | (apply w_neS3T; rfl; rfl; rfl; omega) | (apply w_neS3F; rfl; rfl; rfl; omega) | (apply w_eqS3; rfl; rfl; rfl) | (apply w_neS3; rfl; rfl; rfl) | (apply w_eqS2; rfl; rfl; rfl) | (apply w_neS2; rfl; rfl; rfl) | (apply w_maxL; rfl; rfl; rfl; omega) | (apply w_maxG; rfl; rfl; rfl; omega) | (apply w_max; rfl; rfl; rfl) | (apply w_neB; rfl; rfl; rfl; rfl) | (apply w_eqB; rfl; rfl; rfl; rfl) | (apply w_strA; rfl; rfl; rfl; first | omega | (simp only [List.length_append, List.length_cons, List.length_nil]; omega)) | (apply w_strET; rfl; rfl; rfl; assumption) | (apply w_strEF; rfl; rfl; rfl; assumption) | (apply w_strNF; rfl; rfl; rfl; assumption) | (apply w_strNT; rfl; rfl; rfl; assumption) | (apply w_strE; rfl; rfl; rfl; rfl) | (apply w_strN; rfl; rfl; rfl; rfl) | (apply w_strL; rfl; rfl) | (apply w_fldV; rfl; rfl; rfl) | (apply w_ixA; rfl; rfl; rfl; omega; omega; assumption) | (apply w_cd; rfl; rfl; exact hCu _ inferInstance; ((exact kmf))) | (apply w_cd; rfl; rfl; exact hWd; ((exact kmf))) | (apply w_cd; rfl; rfl; exact hPr; ((exact kmf))) | (apply w_sa; rfl; rfl; rfl; exact hOc; ((focus ((repeat (first | exact .pt rfl | apply StAll.there)); done))); ((exact kmf))) | (apply w_cl; rfl; rfl; exact Lines_ok _ _; exact ⟨_, _, 0, rfl, rfl⟩; rintro _ _ ⟨bt, rfl, rfl⟩; refine ⟨by (exact kmf), ?_⟩) | (apply w_cl; rfl; rfl; exact SplitSeq_ok _ _; exact ⟨_, _, 0, 0, 0, rfl, rfl⟩; rintro _ _ ⟨c1, c2, c3, rfl, rfl⟩; refine ⟨by (exact kmf), ?_⟩) | refine spl ?_ ?_ | intro hc)
      all_goals first | (exfalso; omega) | skip
      refine W_sat (L' := cfH b4 ⟨ds, mu, qu, []⟩ :: pt b2 45 [.slice none 0 0, int 0, int 0, .slice none 0 0] :: pt b3 30 [int 0] :: all R :: mblk r :: boxH bt :: []) (fun w hs => ?_) ?_
      · have h1 : Sat w (pcH b4 b2 b3 R ⟨ds, mu, qu, []⟩ 0 :: mblk r :: boxH bt :: []) := Sel.sat (by (focus ((repeat (first | exact Sel.refl | (apply Sel.cons; (focus ((repeat (first | exact Del.here | apply Del.there)); done))) | refine Sel.drop ?_)); done))) hs
        exact Sat.all_iff.1 h1
      refine W_cfH fun v2 u2 us2 ho hv2 hu2 => ?_
      have hIn : CfIn (pt b4 45 [v2, int mu, int qu, u2] :: sl 49 3 v2 (ds.map plE) :: sl 86 1 u2 (us2.map uE) :: rowsT 88 us2 [] :: pt b2 45 [.slice none 0 0, int 0, int 0, .slice none 0 0] :: pt b3 30 [int 0] :: all R :: mblk r :: boxH bt :: []) v2 u2 us2 ⟨ds, mu, qu, []⟩ := (cfIn_own ho.1 hv2 hu2).there
      clear hPr
      have hPr : Called Tryd.prog 16 [.agg #[v2, int mu, int qu, u2]] (pt b4 45 [v2, int mu, int qu, u2] :: sl 49 3 v2 (ds.map plE) :: sl 86 1 u2 (us2.map uE) :: rowsT 88 us2 [] :: pt b2 45 [.slice none 0 0, int 0, int 0, .slice none 0 0] :: pt b3 30 [int 0] :: all R :: mblk r :: boxH bt :: []) (is (.tuple #[str (printC ⟨ds, mu, qu, []⟩).1, int (printC ⟨ds, mu, qu, []⟩).2]) (pt b4 45 [v2, int mu, int qu, u2] :: sl 49 3 v2 (ds.map plE) :: sl 86 1 u2 (us2.map uE) :: rowsT 88 us2 [] :: pt b2 45 [.slice none 0 0, int 0, int 0, .slice none 0 0] :: pt b3 30 [int 0] :: all R :: mblk r :: boxH bt :: [])) := sPrintC_ok v2 u2 us2 ⟨ds, mu, qu, []⟩ _ hIn ho.2.1 ho.2.2
      have hck : chkC s ⟨ds, mu, qu, []⟩ = if printC ⟨ds, mu, qu, []⟩ = (s, 0) then (⟨ds, mu, qu, []⟩, 0) else (cfg0, 22) := rfl
      generalize printC ⟨ds, mu, qu, []⟩ = pr at *
      obtain ⟨tx, e⟩ := pr
      dsimp only at hPr
      by_cases hgo : e = 0 ∧ tx = s
      · obtain ⟨rfl, rfl⟩ := hgo
        rw [if_pos rfl] at hck
        rw [hck] at hpc
        subst hpc
        have htt : tx = tx := rfl
        clear hOc
        have hOc : [v2, int mu, int qu, u2].all Value.oneCell' = true := by
          simp only [List.all_cons, List.all_nil, hv2.one, hu2.one]
          rfl
        (repeat' first | refine stp ?_ | intro v' hv' | intro (b : Nat) | (apply w_convU; rfl; rfl; omega; omega) | (apply w_convI; rfl; rfl; omega; omega) | (apply w_quoU; rfl; rfl; rfl; omega; omega; omega) | (apply w_remU; rfl; rfl; rfl; omega; omega) | (apply w_minL; rfl; rfl; rfl; omega) | (apply w_minG; rfl; rfl; rfl; omega) | (apply w_min; rfl; rfl; rfl) | (apply w_mfR; rfl; rfl) | (apply w_cvp; rfl; rfl; exact inferInstance; rfl; rfl; assumption) | (apply w_eqS2T; rfl; rfl; rfl; omega) | (apply w_eqS2F; rfl; rfl; rfl; omega) | (apply w_neS2T; rfl; rfl; rfl; omega) | (apply w_neS2F; rfl; rfl; rfl; omega) | (apply w_eqS3T; rfl; rfl; rfl; omega) | (apply w_eqS3F; rfl; rfl; rfl; omega) | (apply w_neS3T; rfl; rfl; rfl; omega) | (apply w_neS3F; rfl; rfl; rfl; omega) | (apply w_eqS3; rfl; rfl; rfl) | (apply w_neS3; rfl; rfl; rfl) | (apply w_eqS2; rfl; rfl; rfl) | (apply w_neS2; rfl; rfl; rfl) | (apply w_maxL; rfl; rfl; rfl; omega) | (apply w_maxG; rfl; rfl; rfl; omega) | (apply w_max; rfl; rfl; rfl) | (apply w_neB; rfl; rfl; rfl; rfl) | (apply w_eqB; rfl; rfl; rfl; rfl) | (apply w_strA; rfl; rfl; rfl; first | omega | (simp only [List.length_append, List.length_cons, List.length_nil]; omega)) | (apply w_strET; rfl; rfl; rfl; assumption) | (apply w_strEF; rfl; rfl; rfl; assumption) | (apply w_strNF; rfl; rfl; rfl; assumption) | (apply w_strNT; rfl; rfl; rfl; assumption) | (apply w_strE; rfl; rfl; rfl; rfl) | (apply w_strN; rfl; rfl; rfl; rfl) | (apply w_strL; rfl; rfl) | (apply w_fldV; rfl; rfl; rfl) | (apply w_ixA; rfl; rfl; rfl; omega; omega; assumption) | (apply w_cd; rfl; rfl; exact hCu _ inferInstance; ((exact kmf))) | (apply w_cd; rfl; rfl; exact hWd; ((exact kmf))) | (apply w_cd; rfl; rfl; exact hPr; ((exact kmf))) | (apply w_sa; rfl; rfl; rfl; exact hOc; ((focus ((repeat (first | exact .pt rfl | apply StAll.there)); done))); ((exact kmf))) | (apply w_cl; rfl; rfl; exact Lines_ok _ _; exact ⟨_, _, 0, rfl, rfl⟩; rintro _ _ ⟨bt, rfl, rfl⟩; refine ⟨by (exact kmf), ?_⟩) | (apply w_cl; rfl; rfl; exact SplitSeq_ok _ _; exact ⟨_, _, 0, 0, 0, rfl, rfl⟩; rintro _ _ ⟨c1, c2, c3, rfl, rfl⟩; refine ⟨by (exact kmf), ?_⟩) | refine spl ?_ ?_ | intro hc)
        all_goals first | (exfalso; omega) | skip
        all_goals refine AtM_retR (vs := [.agg #[v2, int mu, int qu, u2], int 0]) (by (first | exact .inl rfl | exact .inr rfl)) (by (focus ((repeat (first | exact Taken.nil | (apply Taken.cons; (focus ((repeat (first | exact Del.here | apply Del.there)); done))))); done))) Tryd.results19 (by (focus ((repeat (first | exact ResR.nil | (apply ResR.tmp; rfl) | (apply ResR.one; rfl; (focus ((repeat (first | assumption | exact .pt rfl | exact .sl ‹_› rfl | exact .sl1 (by first | assumption | rfl) | apply Rd.there)); done))) | (apply ResR.agg; rfl; (focus ((repeat (first | assumption | exact .pt | exact .sl ‹_› | apply RdAll.there)); done)); rfl))); done))) ⟨v2, u2, us2, rfl, ho.1, hv2, hu2, rfl⟩ (fun w hs => ?_)
        all_goals
          have h1 : Sat w (all R :: sl 49 3 v2 (ds.map plE) :: sl 86 1 u2 (us2.map uE) :: rowsT 88 us2 [] :: []) := Sel.sat (by (focus ((repeat (first | exact Sel.refl | (apply Sel.cons; (focus ((repeat (first | exact Del.here | apply Del.there)); done))) | refine Sel.drop ?_)); done))) hs
          exact (hout h1).perm List.perm_append_comm
      · rw [if_neg (fun hh => hgo ⟨(Prod.mk.inj hh).2, (Prod.mk.inj hh).1⟩)] at hck
        rw [hck] at hpc
        subst hpc
        by_cases he : e = 0
        · have htt : tx ≠ s := fun hh => hgo ⟨he, hh⟩
          (repeat' first | refine stp ?_ | intro v' hv' | intro (b : Nat) | (apply w_convU; rfl; rfl; omega; omega) | (apply w_convI; rfl; rfl; omega; omega) | (apply w_quoU; rfl; rfl; rfl; omega; omega; omega) | (apply w_remU; rfl; rfl; rfl; omega; omega) | (apply w_minL; rfl; rfl; rfl; omega) | (apply w_minG; rfl; rfl; rfl; omega) | (apply w_min; rfl; rfl; rfl) | (apply w_mfR; rfl; rfl) | (apply w_cvp; rfl; rfl; exact inferInstance; rfl; rfl; assumption) | (apply w_eqS2T; rfl; rfl; rfl; omega) | (apply w_eqS2F; rfl; rfl; rfl; omega) | (apply w_neS2T; rfl; rfl; rfl; omega) | (apply w_neS2F; rfl; rfl; rfl; omega) | (apply w_eqS3T; rfl; rfl; rfl; omega) | (apply w_eqS3F; rfl; rfl; rfl; omega) | (apply w_neS3T; rfl; rfl; rfl; omega) | (apply w_neS3F; rfl; rfl; rfl; omega) | (apply w_eqS3; rfl; rfl; rfl) | (apply w_neS3; rfl; rfl; rfl) | (apply w_eqS2; rfl; rfl; rfl) | (apply w_neS2; rfl; rfl; rfl) | (apply w_maxL; rfl; rfl; rfl; omega) | (apply w_maxG; rfl; rfl; rfl; omega) | (apply w_max; rfl; rfl; rfl) | (apply w_neB; rfl; rfl; rfl; rfl) | (apply w_eqB; rfl; rfl; rfl; rfl) | (apply w_strA; rfl; rfl; rfl; first | omega | (simp only [List.length_append, List.length_cons, List.length_nil]; omega)) | (apply w_strET; rfl; rfl; rfl; assumption) | (apply w_strEF; rfl; rfl; rfl; assumption) | (apply w_strNF; rfl; rfl; rfl; assumption) | (apply w_strNT; rfl; rfl; rfl; assumption) | (apply w_strE; rfl; rfl; rfl; rfl) | (apply w_strN; rfl; rfl; rfl; rfl) | (apply w_strL; rfl; rfl) | (apply w_fldV; rfl; rfl; rfl) | (apply w_ixA; rfl; rfl; rfl; omega; omega; assumption) | (apply w_cd; rfl; rfl; exact hCu _ inferInstance; ((exact kmf))) | (apply w_cd; rfl; rfl; exact hWd; ((exact kmf))) | (apply w_cd; rfl; rfl; exact hPr; ((exact kmf))) | (apply w_sa; rfl; rfl; rfl; exact hOc; ((focus ((repeat (first | exact .pt rfl | apply StAll.there)); done))); ((exact kmf))) | (apply w_cl; rfl; rfl; exact Lines_ok _ _; exact ⟨_, _, 0, rfl, rfl⟩; rintro _ _ ⟨bt, rfl, rfl⟩; refine ⟨by (exact kmf), ?_⟩) | (apply w_cl; rfl; rfl; exact SplitSeq_ok _ _; exact ⟨_, _, 0, 0, 0, rfl, rfl⟩; rintro _ _ ⟨c1, c2, c3, rfl, rfl⟩; refine ⟨by (exact kmf), ?_⟩) | refine spl ?_ ?_ | intro hc)
          all_goals first | (exfalso; omega) | skip
          all_goals refine AtM_retR (vs := [.agg #[.slice none 0 0, int 0, int 0, .slice none 0 0], int 22]) (by (first | exact .inl rfl | exact .inr rfl)) (by (focus ((repeat (first | exact Taken.nil | (apply Taken.cons; (focus ((repeat (first | exact Del.here | apply Del.there)); done))))); done))) Tryd.results19 (by (focus ((repeat (first | exact ResR.nil | (apply ResR.tmp; rfl) | (apply ResR.one; rfl; (focus ((repeat (first | assumption | exact .pt rfl | exact .sl ‹_› rfl | exact .sl1 (by first | assumption | rfl) | apply Rd.there)); done))) | (apply ResR.agg; rfl; (focus ((repeat (first | assumption | exact .pt | exact .sl ‹_› | apply RdAll.there)); done)); rfl))); done))) ⟨_, _, [], rfl, RowsOk.nil, IsSl.nil, IsSl.nil, rfl⟩ (fun w hs => ?_)
          all_goals
            have h1 : Sat w (all R :: []) := Sel.sat (by (focus ((repeat (first | exact Sel.refl | (apply Sel.cons; (focus ((repeat (first | exact Del.here | apply Del.there)); done))) | refine Sel.drop ?_)); done))) hs
            have h2 := hout h1
            rw [List.append_nil] at h2
            exact cfg0_fold h2
        · (repeat' first | refine stp ?_ | intro v' hv' | intro (b : Nat) | (apply w_convU; rfl; rfl; omega; omega) | (apply w_convI; rfl; rfl; omega; omega) | (apply w_quoU; rfl; rfl; rfl; omega; omega; omega) | (apply w_remU; rfl; rfl; rfl; omega; omega) | (apply w_minL; rfl; rfl; rfl; omega) | (apply w_minG; rfl; rfl; rfl; omega) | (apply w_min; rfl; rfl; rfl) | (apply w_mfR; rfl; rfl) | (apply w_cvp; rfl; rfl; exact inferInstance; rfl; rfl; assumption) | (apply w_eqS2T; rfl; rfl; rfl; omega) | (apply w_eqS2F; rfl; rfl; rfl; omega) | (apply w_neS2T; rfl; rfl; rfl; omega) | (apply w_neS2F; rfl; rfl; rfl; omega) | (apply w_eqS3T; rfl; rfl; rfl; omega) | (apply w_eqS3F; rfl; rfl; rfl; omega) | (apply w_neS3T; rfl; rfl; rfl; omega) | (apply w_neS3F; rfl; rfl; rfl; omega) | (apply w_eqS3; rfl; rfl; rfl) | (apply w_neS3; rfl; rfl; rfl) | (apply w_eqS2; rfl; rfl; rfl) | (apply w_neS2; rfl; rfl; rfl) | (apply w_maxL; rfl; rfl; rfl; omega) | (apply w_maxG; rfl; rfl; rfl; omega) | (apply w_max; rfl; rfl; rfl) | (apply w_neB; rfl; rfl; rfl; rfl) | (apply w_eqB; rfl; rfl; rfl; rfl) | (apply w_strA; rfl; rfl; rfl; first | omega | (simp only [List.length_append, List.length_cons, List.length_nil]; omega)) | (apply w_strET; rfl; rfl; rfl; assumption) | (apply w_strEF; rfl; rfl; rfl; assumption) | (apply w_strNF; rfl; rfl; rfl; assumption) | (apply w_strNT; rfl; rfl; rfl; assumption) | (apply w_strE; rfl; rfl; rfl; rfl) | (apply w_strN; rfl; rfl; rfl; rfl) | (apply w_strL; rfl; rfl) | (apply w_fldV; rfl; rfl; rfl) | (apply w_ixA; rfl; rfl; rfl; omega; omega; assumption) | (apply w_cd; rfl; rfl; exact hCu _ inferInstance; ((exact kmf))) | (apply w_cd; rfl; rfl; exact hWd; ((exact kmf))) | (apply w_cd; rfl; rfl; exact hPr; ((exact kmf))) | (apply w_sa; rfl; rfl; rfl; exact hOc; ((focus ((repeat (first | exact .pt rfl | apply StAll.there)); done))); ((exact kmf))) | (apply w_cl; rfl; rfl; exact Lines_ok _ _; exact ⟨_, _, 0, rfl, rfl⟩; rintro _ _ ⟨bt, rfl, rfl⟩; refine ⟨by (exact kmf), ?_⟩) | (apply w_cl; rfl; rfl; exact SplitSeq_ok _ _; exact ⟨_, _, 0, 0, 0, rfl, rfl⟩; rintro _ _ ⟨c1, c2, c3, rfl, rfl⟩; refine ⟨by (exact kmf), ?_⟩) | refine spl ?_ ?_ | intro hc)
          all_goals first | (exfalso; omega) | skip
          all_goals refine AtM_retR (vs := [.agg #[.slice none 0 0, int 0, int 0, .slice none 0 0], int 22]) (by (first | exact .inl rfl | exact .inr rfl)) (by (focus ((repeat (first | exact Taken.nil | (apply Taken.cons; (focus ((repeat (first | exact Del.here | apply Del.there)); done))))); done))) Tryd.results19 (by (focus ((repeat (first | exact ResR.nil | (apply ResR.tmp; rfl) | (apply ResR.one; rfl; (focus ((repeat (first | assumption | exact .pt rfl | exact .sl ‹_› rfl | exact .sl1 (by first | assumption | rfl) | apply Rd.there)); done))) | (apply ResR.agg; rfl; (focus ((repeat (first | assumption | exact .pt | exact .sl ‹_› | apply RdAll.there)); done)); rfl))); done))) ⟨_, _, [], rfl, RowsOk.nil, IsSl.nil, IsSl.nil, rfl⟩ (fun w hs => ?_)
          all_goals
            have h1 : Sat w (all R :: []) := Sel.sat (by (focus ((repeat (first | exact Sel.refl | (apply Sel.cons; (focus ((repeat (first | exact Del.here | apply Del.there)); done))) | refine Sel.drop ?_)); done))) hs
            have h2 := hout h1
            rw [List.append_nil] at h2
            exact cfg0_fold h2
end Go.Proofs.YteggkdlgailfoaaDoor
