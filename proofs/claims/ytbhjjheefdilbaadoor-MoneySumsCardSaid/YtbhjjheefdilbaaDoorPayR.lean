/- How an abstract run is followed: states as lists, each step's own equation. -/
import Derived.Test.YtbhjjheefdilbaaDoorPayQ
set_option linter.unusedSimpArgs false
set_option linter.unusedVariables false
namespace Pay
open Go

def mk (l : List (Nat × V)) (m : List (Nat × Option Ob)) : St := { s := look l, o := looko m }

theorem mk_s (l : List (Nat × V)) (m : List (Nat × Option Ob)) : (mk l m).s = look l := rfl
theorem mk_o (l : List (Nat × V)) (m : List (Nat × Option Ob)) : (mk l m).o = looko m := rfl
theorem mk_put (l : List (Nat × V)) (m : List (Nat × Option Ob)) (d : Nat) (v : V) : (mk l m).put (some d) v = mk ((d, v) :: l) m := by
  simp only [St.put, mk]
  congr 1
theorem mk_put0 (l : List (Nat × V)) (m : List (Nat × Option Ob)) (v : V) : (mk l m).put none v = mk l m := rfl
theorem look_upd (l : List (Nat × V)) (d : Nat) (v : V) : upd (look l) d v = look ((d, v) :: l) := rfl
theorem looko_upd (l : List (Nat × Option Ob)) (d : Nat) (v : Option Ob) : upd (looko l) d v = looko ((d, v) :: l) := rfl
theorem mk_eta (l : List (Nat × V)) (m : List (Nat × Option Ob)) : ({ s := look l, o := looko m } : St) = mk l m := rfl

theorem mk_trim (l : List (Nat × V)) (m : List (Nat × Option Ob)) (ks ns : List Nat) : (mk l m).trim ks (some ns) = mk (ks.map fun k => (k, look l k)) (ns.map fun n => (n, looko m n)) := rfl
theorem mk_trim0 (l : List (Nat × V)) (m : List (Nat × Option Ob)) (ks : List Nat) : (mk l m).trim ks none = mk (ks.map fun k => (k, look l k)) m := rfl
theorem mk_frz0 (st : St) : st.frz [] = st := rfl

theorem look_scrub (m : Nat) : ∀ (l : List (Nat × V)) (t : Nat), scrubV m (look l t) = look (l.map fun p => (p.1, scrubV m p.2)) t
  | [], t => by simp [look, scrubV, V.refs]
  | (k, v) :: l, t => by
    simp only [look, List.map_cons]
    split
    · rfl
    · exact look_scrub m l t
theorem looko_scrub (m : Nat) : ∀ (l : List (Nat × Option Ob)) (t : Nat), (looko l t).map (Ob.scrub m) = looko (l.map fun p => (p.1, p.2.map (Ob.scrub m))) t
  | [], t => rfl
  | (k, v) :: l, t => by
    simp only [looko, List.map_cons]
    split
    · rfl
    · exact looko_scrub m l t
theorem mk_scrub (l : List (Nat × V)) (m : List (Nat × Option Ob)) (n : Nat) : (mk l m).scrub n = mk (l.map fun p => (p.1, scrubV n p.2)) (m.map fun p => (p.1, p.2.map (Ob.scrub n))) := by
  simp only [St.scrub, mk]
  congr 1
  · funext t; exact look_scrub n l t
  · funext t; exact looko_scrub n m t

theorem look_thaw (m : Nat) (es : List (List D)) : ∀ (l : List (Nat × V)) (t : Nat), V.thaw m es (look l t) = look (l.map fun p => (p.1, V.thaw m es p.2)) t
  | [], t => by simp [look, V.thaw]
  | (k, v) :: l, t => by
    simp only [look, List.map_cons]
    split
    · rfl
    · exact look_thaw m es l t
def thawO (n : Nat) (es : List (List D)) (p : Nat × Option Ob) : Nat × Option Ob := (p.1, if p.1 = n then none else p.2.map (Ob.thaw n es))
theorem looko_thaw (n : Nat) (es : List (List D)) : ∀ (l : List (Nat × Option Ob)) (t : Nat), (if t = n then none else (looko l t).map (Ob.thaw n es)) = looko (l.map (thawO n es)) t
  | [], t => by simp [looko]
  | (k, v) :: l, t => by
    have ih := looko_thaw n es l t
    simp only [looko, List.map_cons, thawO] at ih ⊢
    by_cases h : t = k
    · subst h; simp
    · rw [if_neg h, if_neg h]; exact ih
theorem mk_free (l : List (Nat × V)) (m : List (Nat × Option Ob)) {n sz : Nat} {es : List (List D)} (h : looko m n = some (.row sz es)) : (mk l m).free n = mk (l.map fun p => (p.1, V.thaw n es p.2)) (m.map (thawO n es)) := by
  unfold St.free
  rw [mk_o, h]
  simp only [mk]
  congr 1
  · funext t; exact look_thaw n es l t
  · funext t; exact looko_thaw n es m t

/-- No slot but the one that is put names the object: read off the lists. -/
def freshB (l : List (Nat × V)) (m : List (Nat × Option Ob)) (nm : Nat) (dst : Option Nat) : Prop :=
  (∀ p ∈ l, dst ≠ some p.1 → V.refs nm p.2 = false) ∧ ∀ p ∈ m, p.1 ≠ nm → ∀ x, p.2 = some x → x.refs nm = false
theorem look_mem : ∀ (l : List (Nat × V)) (t : Nat), look l t = .undef ∨ (t, look l t) ∈ l
  | [], t => .inl rfl
  | (k, v) :: l, t => by
    simp only [look]
    split
    · rename_i h; subst h; exact .inr (by simp)
    · rcases look_mem l t with h | h
      · exact .inl h
      · exact .inr (List.mem_cons_of_mem _ h)
theorem looko_mem : ∀ (l : List (Nat × Option Ob)) (t : Nat), looko l t = none ∨ (t, looko l t) ∈ l
  | [], t => .inl rfl
  | (k, v) :: l, t => by
    simp only [looko]
    split
    · rename_i h; subst h; exact .inr (by simp)
    · rcases looko_mem l t with h | h
      · exact .inl h
      · exact .inr (List.mem_cons_of_mem _ h)
theorem mk_fresh {l : List (Nat × V)} {m : List (Nat × Option Ob)} {nm : Nat} {dst : Option Nat} (h : freshB l m nm dst) : Fresh (mk l m) nm dst := by
  refine ⟨fun t ht => ?_, fun n x hn hx => ?_⟩
  · rw [mk_s]
    rcases look_mem l t with e | e
    · rw [e]; rfl
    · exact h.1 _ e ht
  · rw [mk_o] at hx
    rcases looko_mem m n with e | e
    · rw [e] at hx; cases hx
    · exact h.2 _ e hn x hx

theorem callA_plain {C : Ctx} {I : Nat → Prop} {st : St} {dst : Option Nat} {K : St → Prop} {f : Nat} {xs : List V} {r : V} (h : SoundAt C f ⟨xs, fun _ => none⟩ ⟨r, fun _ => none⟩) (hr : ∀ n, V.refs n r = false) (hK : K (st.put dst r)) : callA C I st dst K f xs := by
  refine ⟨fun _ => false, ⟨r, fun _ => none⟩, by rw [exO_none]; exact h, ⟨fun n hn => absurd rfl hn, fun n hn => ?_, fun n x hx => by cases hx⟩, ?_⟩
  · rw [hr n] at hn; cases hn
  · rw [mixO_none, ← put_o (st := st) (dj := dst) (u := r)]; exact hK

theorem wpA_loop' {C : Ctx} {I : Nat → Prop} {L : ACode} {tr : List Nat} {tro : Option (List Nat)} {c : ACode} {st : St} {Q : Ex → St → Prop} (hL : L = .loop tr tro c)
    (h : wpA C I c (st.trim tr tro) (fun e s' => match e with | .normal => wpA C I L s' Q | e => Q e s')) : wpA C I L st Q := by
  subst hL
  exact wpA_loop h

/-- What a run of the code must end with. -/
def EndsA (I : Nat → Prop) (own : List (Nat × Nat × Nat)) (frz : List Nat) (res : List ARes) (st : St) (cout : RS) : Prop :=
  ownify I own st (fun st => ∃ vs, resVs (st.frz frz) res = some vs ∧ cout.r = tupV vs ∧ ∀ n x, cout.o n = some x → (st.frz frz).o n = some x)
theorem SoundAt.of_code' {C : Ctx} {fn : AFn} {f N : Nat} {res : List ARes} {own : List (Nat × Nat × Nat)} {frz : List Nat} {code : ACode} (hk : okFn C.P C.φ f fn = true) (hfn : fn = ⟨N, res, own, frz, code⟩) {cin : CS} {cout : RS}
    (h : wpA C (fun n => cin.o n ≠ none) code cin.entry (fun e st => (e = .ret ∨ e = .normal) ∧ EndsA (fun n => cin.o n ≠ none) own frz res st cout)) : SoundAt C f cin cout := by
  subst hfn
  exact SoundAt.of_code hk h
/-- by-value arguments, by-value results -/
theorem ends_plain {I : Nat → Prop} {res : List ARes} {st : St} {r : V} {vs : List V} (h1 : resVs st res = some vs) (h2 : r = tupV vs) : EndsA I [] [] res st ⟨r, fun _ => none⟩ :=
  ⟨vs, h1, h2, fun n x hx => by cases hx⟩
theorem put_same {st : St} {g : Nat} {v : V} (h : st.s g = v) : st.put (some g) v = st := by
  obtain ⟨s, o⟩ := st
  simp only [St.put]
  congr 1
  funext t
  simp only [upd]
  split
  · rename_i e; rw [e]; exact h.symm
  · rfl
theorem opA_all {tr : Option (List Nat × Option (List Nat))} (C : Ctx) (I : Nat → Prop) (dst : Option Nat) (op : AOp) (frz deps : List Nat) (st : St) (K : St → Prop) : opA C I ⟨dst, op, frz, deps, none, tr⟩ st K = stepA C I (st.frz frz) dst K op := rfl
/-- A guard's slot is told to be what it is. -/
theorem opA_if {tr : Option (List Nat × Option (List Nat))} (C : Ctx) (I : Nat → Prop) (dst : Option Nat) (op : AOp) (frz deps : List Nat) (p g : Nat) (want : Bool) (st : St) (K : St → Prop) : opA C I ⟨dst, op, frz, deps, some (p, g, want), tr⟩ st K =
    (match st.s g with
    | .d (.bool b) => if b = want then stepA C I ((st.put (some g) (.d (.bool want))).frz frz) dst K op else K ((st.put (some g) (.d (.bool (!want)))).put dst (.tup []))
    | .tup [] => K (st.put dst (.tup []))
    | _ => False) := by
  show (match st.s g with
    | .d (.bool b) => if b = want then stepA C I (st.frz frz) dst K op else K (st.put dst (.tup []))
    | .tup [] => K (st.put dst (.tup []))
    | _ => False) = _
  cases hg : st.s g with
  | d x =>
    cases x with
    | bool b =>
      simp only
      by_cases h : b = want
      · subst h
        rw [if_pos rfl, if_pos rfl, put_same hg]
      · rw [if_neg h, if_neg h]
        have : (!want) = b := by cases b <;> cases want <;> simp_all
        rw [this, put_same hg]
    | _ => rfl
  | tup l => cases l <;> rfl
  | _ => rfl

theorem demand_some (v : V) (K : V → Prop) : demand (some v) K = K v := rfl
theorem demand_none (K : V → Prop) : demand none K = False := rfl
theorem demand_ite (c : Prop) [Decidable c] (x : Option V) (K : V → Prop) : demand (if c then x else none) K ↔ c ∧ demand x K := by
  by_cases h : c <;> simp [h, demand]

theorem entry_mk (vs : List V) : (CS.entry ⟨vs, fun _ => none⟩) = mk (vs.zipIdx.map fun p => (p.2, p.1)) [] := by
  simp only [CS.entry, mk]
  congr 1
  funext t
  have key : ∀ (vs : List V) (k : Nat), k ≤ t → look ((vs.zipIdx k).map fun p => (p.2, p.1)) t = (vs[t - k]?).getD .undef := by
    intro vs
    induction vs with
    | nil => intro k _; rfl
    | cons v vs ih =>
      intro k hk
      simp only [List.zipIdx_cons, List.map_cons, look]
      by_cases h : t = k
      · subst h; simp
      · rw [if_neg h, ih (k + 1) (by omega)]
        rw [show t - k = (t - (k + 1)) + 1 by omega, List.getElem?_cons_succ]
  exact (key vs 0 (Nat.zero_le _)).symm
end Pay
