/- How an abstract run is followed: states as lists, each step's own equation. -/
import Derived.Test.YthnddhfpkmbacaaDoorPayQ
set_option linter.unusedSimpArgs false
set_option linter.unusedVariables false
namespace Pay
open Go
def mk (l : List (Nat × V)) (m : List (Nat × Option Ob)) : St := { s := look l, o := looko m }
theorem mk_s (l : List (Nat × V)) (m : List (Nat × Option Ob)) : (mk l m).s = look l := rfl
theorem mk_o (l : List (Nat × V)) (m : List (Nat × Option Ob)) : (mk l m).o = looko m := rfl
/-- No slot but the one that is put names the object: read off the lists. -/
def freshB (l : List (Nat × V)) (m : List (Nat × Option Ob)) (nm : Nat) (dst : Option Nat) : Prop :=
  (∀ p ∈ l, dst ≠ some p.1 → V.refs nm p.2 = false) ∧ ∀ p ∈ m, p.1 ≠ nm → ∀ x, p.2 = some x → x.refs nm = false
theorem look_mem : ∀ (l : List (Nat × V)) (t : Nat), look l t = .undef ∨ (t, look l t) ∈ l
  | [], t => .inl rfl
  | (k, v) :: l, t => by
    simp only [look]
    split
    · rename_i h; subst h; exact .inr (by simp)
    · rcases look_mem l t with h | h
      · exact .inl h
      · exact .inr (List.mem_cons_of_mem _ h)
theorem looko_mem : ∀ (l : List (Nat × Option Ob)) (t : Nat), looko l t = none ∨ (t, looko l t) ∈ l
  | [], t => .inl rfl
  | (k, v) :: l, t => by
    simp only [looko]
    split
    · rename_i h; subst h; exact .inr (by simp)
    · rcases looko_mem l t with h | h
      · exact .inl h
      · exact .inr (List.mem_cons_of_mem _ h)
theorem mk_fresh {l : List (Nat × V)} {m : List (Nat × Option Ob)} {nm : Nat} {dst : Option Nat} (h : freshB l m nm dst) : Fresh (mk l m) nm dst := by
  refine ⟨fun t ht => ?_, fun n x hn hx => ?_⟩
  · rw [mk_s]
    rcases look_mem l t with e | e
    · rw [e]; rfl
    · exact h.1 _ e ht
  · rw [mk_o] at hx
    rcases looko_mem m n with e | e
    · rw [e] at hx; cases hx
    · exact h.2 _ e hn x hx
theorem wpA_loop' {C : Ctx} {I : Nat → Prop} {L : ACode} {tr : List Nat} {tro : Option (List Nat)} {c : ACode} {st : St} {Q : Ex → St → Prop} (hL : L = .loop tr tro c)
    (h : wpA C I c (st.trim tr tro) (fun e s' => match e with | .normal => wpA C I L s' Q | e => Q e s')) : wpA C I L st Q := by
  subst hL
  exact wpA_loop h
/-- What a run of the code must end with. -/
def EndsA (I : Nat → Prop) (own : List (Nat × Nat × Nat)) (frz : List Nat) (res : List ARes) (st : St) (cout : RS) : Prop :=
  ownify I own st (fun st => ∃ vs, resVs (st.frz frz) res = some vs ∧ cout.r = tupV vs ∧ ∀ n x, cout.o n = some x → (st.frz frz).o n = some x)
theorem SoundAt.of_code' {C : Ctx} {fn : AFn} {f N : Nat} {res : List ARes} {own : List (Nat × Nat × Nat)} {frz : List Nat} {code : ACode} (hk : okFn C.P C.φ f fn = true) (hfn : fn = ⟨N, res, own, frz, code⟩) {cin : CS} {cout : RS}
    (h : wpA C (fun n => cin.o n ≠ none) code cin.entry (fun e st => (e = .ret ∨ e = .normal) ∧ EndsA (fun n => cin.o n ≠ none) own frz res st cout)) : SoundAt C f cin cout := by
  subst hfn
  exact SoundAt.of_code hk h
theorem put_same {st : St} {g : Nat} {v : V} (h : st.s g = v) : st.put (some g) v = st := by
  obtain ⟨s, o⟩ := st
  simp only [St.put]
  congr 1
  funext t
  simp only [upd]
  split
  · rename_i e; rw [e]; exact h.symm
  · rfl
/-- A guard's slot is told to be what it is. -/
theorem opA_if {tr : Option (List Nat × Option (List Nat))} (C : Ctx) (I : Nat → Prop) (dst : Option Nat) (op : AOp) (frz deps : List Nat) (p g : Nat) (want : Bool) (st : St) (K : St → Prop) : opA C I ⟨dst, op, frz, deps, some (p, g, want), tr⟩ st K =
    (match st.s g with
    | .d (.bool b) => if b = want then stepA C I ((st.put (some g) (.d (.bool want))).frz frz) dst K op else K ((st.put (some g) (.d (.bool (!want)))).put dst (.tup []))
    | .tup [] => K (st.put dst (.tup []))
    | _ => False) := by
  show (match st.s g with
    | .d (.bool b) => if b = want then stepA C I (st.frz frz) dst K op else K (st.put dst (.tup []))
    | .tup [] => K (st.put dst (.tup []))
    | _ => False) = _
  cases hg : st.s g with
  | d x =>
    cases x with
    | bool b =>
      simp only
      by_cases h : b = want
      · subst h
        rw [if_pos rfl, if_pos rfl, put_same hg]
      · rw [if_neg h, if_neg h]
        have : (!want) = b := by cases b <;> cases want <;> simp_all
        rw [this, put_same hg]
    | _ => rfl
  | tup l => cases l <;> rfl
  | _ => rfl
end Pay
