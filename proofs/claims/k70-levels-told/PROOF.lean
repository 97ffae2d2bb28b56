import PyProof.Rows.All
import Wide.All
import OpenK.AllK
import Wide.FinOn
import HandS.ForMost
import HandS.Evl
import HandS.Walk
import HandS.Zip
import HandS.TupAny
import HandS.DictTup
import HandS.Flow
import HandS.Deep
import KE.SortData
import KE.DatumOrd
import HandS.Wide
import HandS.Conv
import HandS.IsInst
import KE.GoesMore
import KE.GoesEnum
import HandS.TupSets
import HandS.SetFor
import KE.BitLaws
import PyProof.Rows.BitMore
import HandS.TupMul
import KE.DataMinMax
import KE.DataFind
import PyProof.MaxThree
import KE.DataCmp
import HandS.Style
import KE.KDictWalk
import KE.KDictSum
import HandS.EndBits
import HandS.WideBits
import HandS.More
import PySem.Challenge.RW_corepetals_k70_levels_told
set_option Elab.async false
set_option linter.all false
set_option maxRecDepth 100000
set_option maxHeartbeats 0
set_option autoImplicit false
namespace Z
open PySem PySem.Spec PyProof.Rows L2
open Evl (Ex fresh_back)

/-! ### what a call may give: a monad of wishes -/
structure W (a : Type) : Type where
  run : (a → Prop) → Prop
  mono : ∀ {P Q : a → Prop}, (∀ x, P x → Q x) → run P → run Q
theorem W.ext {a : Type} {m n : W a} (h : ∀ Q, m.run Q ↔ n.run Q) : m = n := by
  cases m with | mk r1 m1 => cases n with | mk r2 m2 =>
    have e : r1 = r2 := funext fun Q => propext (h Q)
    subst e; rfl
instance : Monad W where
  pure x := ⟨fun Q => Q x, fun h p => h _ p⟩
  bind m f := ⟨fun Q => m.run fun x => (f x).run Q, fun h p => m.mono (fun x q => (f x).mono h q) p⟩
instance : LawfulMonad W := LawfulMonad.mk' W (id_map := fun x => by cases x; rfl) (pure_bind := fun _ _ => rfl) (bind_assoc := fun _ _ _ => rfl)
def W.need (p : Prop) : W Unit := ⟨fun Q => p ∧ Q (), fun h q => ⟨q.1, h _ q.2⟩⟩
def W.fail {a : Type} : W a := ⟨fun _ => False, fun _ h => h⟩
def W.some {a : Type} (p : a → Prop) : W a := ⟨fun Q => ∀ x, p x → Q x, fun h q x hx => h _ (q x hx)⟩
@[simp] theorem run_pure {a : Type} (x : a) (Q : a → Prop) : (pure x : W a).run Q = Q x := rfl
@[simp] theorem run_bind {a b : Type} (m : W a) (f : a → W b) (Q : b → Prop) : (m >>= f).run Q = m.run fun x => (f x).run Q := rfl
@[simp] theorem run_need (p : Prop) (Q : Unit → Prop) : (W.need p).run Q = (p ∧ Q ()) := rfl
@[simp] theorem run_fail {a : Type} (Q : a → Prop) : (W.fail : W a).run Q = False := rfl
@[simp] theorem run_some {a : Type} (p : a → Prop) (Q : a → Prop) : (W.some p).run Q = ∀ x, p x → Q x := rfl
theorem need_true {p : Prop} (h : p) : W.need p = pure () := W.ext fun Q => ⟨fun q => q.2, fun q => ⟨h, q⟩⟩
@[simp] theorem need_bind {a : Type} {p : Prop} (h : p) (f : Unit → W a) : (W.need p >>= f) = f () := by rw [need_true h]; rfl
@[simp] theorem fail_bind {a b : Type} (f : a → W b) : ((W.fail : W a) >>= f) = W.fail := rfl

/-- an object of an own exception class, without a dict of its own -/
def excH (p C : Addr) : HO := .ext fun h => ∃ (o : Obj) (vs : Array Value), h.get? p = some o ∧ o.cls = .ref C ∧ o.dict = none ∧ o.data = .fields vs
/-- things fixed in G: an object of an own exception class; a tuple whose object has no dict of its own -/
inductive Ad where
  | exc (n : Str)
  | tz (ds : List PyData)
/-! ### what stands in a slot, as the proof sees it -/
inductive Sl where
  | any
  | imm (d : PyData)
  | lst (ds : List PyData)
  | dK (kvs : List (Key × PyData))
  | dT (kvs : List (List Key × PyData))
  | rK (kvs : List (Key × PyData))
  | rT (kvs : List (List Key × PyData))
  | opq (k : Nat)
  | adr (n : Ad)
abbrev Env := List Sl
def gt (env : Env) (i : Nat) : Sl := env.getD i .any

inductive Rv where
  | im (d : PyData)
  | fr (ds : List PyData)
  | rk (kvs : List (Key × PyData))
  | rt (kvs : List (List Key × PyData))
  | ad (a : Ad)
inductive Fl where
  | nx | bk | ct
  | rt (r : Rv)

/-- tuples stay -/
def TuKeep (H H' : Hp) : Prop := ∀ a xs, H a = some (.tup xs) → H' a = some (.tup xs)
theorem TuKeep.of {H : Hp} {p : Addr} {o : HO} (h : ∀ xs, H p ≠ some (.tup xs)) : TuKeep H (upd H p o) := fun a xs r => by
  have c : a ≠ p := fun z => by subst z; exact h xs r
  rw [upd_ne c]; exact r
theorem TuKeep.new {H : Hp} {p : Addr} {o : HO} (h : H p = none) : TuKeep H (upd H p o) := .of fun xs r => by rw [h] at r; cases r
theorem TuKeep.trans {H H1 H2 : Hp} (a : TuKeep H H1) (b : TuKeep H1 H2) : TuKeep H H2 := fun x xs r => b x xs (a x xs r)
/-- a thing whose inside does not matter -/
structure Opq where
  p : Addr
  fp : List Addr
  C : Hp → Prop
  loc : ∀ H H' : Hp, (∀ a ∈ fp, H' a = H a) → TuKeep H H' → C H → C H'
  mem : ∀ H, C H → ∀ a ∈ fp, H a ≠ none
structure Ba where
  G : Hp
  H : Hp
  mu : List Addr
  ops : List Opq
/-- what the things are whose inside does not matter -/
class PoC where
  PO : Opq → Prop
  S : Hp
  tz : Prop
variable [PoC]
/-- no frozen tuple, but such as begin with a thing -/
def NF : HO → Prop
  | .frz _ (.tup us) => PoC.tz ∧ ∃ r rs, us = V.ref r :: rs
  | _ => True
/-- no tuple -/
def NT : HO → Prop
  | .tup _ => False
  | _ => True
def NFz (G : Hp) : Prop := ∀ a u, G a = some u → NF u
theorem NFz.to {i j : PoC} {G : Hp} (h : @NFz i G) (hij : i.tz → j.tz) : @NFz j G := fun a u e => by
  have := h a u e
  cases u with
  | frz o v => cases v with
    | tup us => exact ⟨hij this.1, this.2⟩
    | _ => trivial
  | _ => trivial
theorem NFz.upd {G : Hp} (h : NFz G) {p : Addr} {o : HO} (ho : NF o) : NFz (L2.upd G p o) := fun a u e => by
  by_cases c : a = p
  · subst c; rw [upd_same] at e; cases e; exact ho
  · rw [upd_ne c] at e; exact h a u e
structure Fra (B : Ba) (G H : Hp) : Prop where
  ex : Ex G H
  old : Ex B.G G
  keep : ∀ a o, B.H a = some o → a ∉ B.mu → H a = some o
  trk : ∀ a, B.H a ≠ none → H a ≠ none
  new : ∀ a, B.H a ≠ none → B.G a = none → G a = none
  ops : ∀ q ∈ B.ops, q.C H ∧ ∀ a ∈ q.fp, G a = none ∧ a ∈ B.mu
  opH : ∀ q ∈ B.ops, ∀ a ∈ q.fp, B.H a ≠ none
  po : ∀ q ∈ B.ops, PoC.PO q
  one : B.ops.length ≤ 1
  st : Ex PoC.S B.G
  cl : NFz G
  tu : ∀ a xs, H a = some (.tup xs) → G a = some (.tup xs)
def BoxP (B : Ba) (G : Hp) (p : Addr) : Prop := G p = none ∧ (p ∈ B.mu ∨ B.H p = none) ∧ ∀ q ∈ B.ops, p ∉ q.fp
/-- data, none of it in the written part -/
abbrev K0 : PySem.W.Frag := []
def Dp (_ : PySem.W.Frag) (G : Hp) (v : V) (d : PyData) : Prop := L2.Dp K0 G v d
def DpAll (_ : PySem.W.Frag) (G : Hp) (vs : List V) (ds : List PyData) : Prop := L2.DpAll K0 G vs ds
mutual
theorem dp0 {K : PySem.W.Frag} {G : Hp} : ∀ {v : V} {d : PyData}, L2.Dp K0 G v d → L2.Dp K G v d
  | _, _, .non => .non
  | _, _, .bl b => .bl b
  | _, _, .int i => .int i
  | _, _, .str x => .str x
  | _, _, .lst h r => .lst (by rcases h with h | ⟨o, _, _, h, _⟩; exact .inl h; cases h) (dpa0 r)
  | _, _, .tup h r => .tup (by rcases h with h | ⟨o, _, _, h, _⟩; exact .inl h; cases h) (dpa0 r)
theorem dpa0 {K : PySem.W.Frag} {G : Hp} : ∀ {vs : List V} {ds : List PyData}, L2.DpAll K0 G vs ds → L2.DpAll K G vs ds
  | _, _, .nil => .nil
  | _, _, .cons h r => .cons (dp0 h) (dpa0 r)
end
theorem sq0 {K : PySem.W.Frag} {H : Hp} {a : Addr} {xs : List V} (h : SqL K0 H a xs) : SqL K H a xs := by
  rcases h with h | ⟨o, _, _, h, _⟩
  · exact .inl h
  · cases h
theorem st0 {K : PySem.W.Frag} {H : Hp} {a : Addr} {xs : List V} (h : SqT K0 H a xs) : SqT K H a xs := by
  rcases h with h | ⟨o, _, _, h, _⟩
  · exact .inl h
  · cases h
theorem ex_l {K : PySem.W.Frag} {H H' : Hp} {a : Addr} {xs : List V} (e : Ex H H') (h : SqL K0 H a xs) : SqL K H' a xs := sq0 (Evl.ex_l e h)
theorem ex_t {K : PySem.W.Frag} {H H' : Hp} {a : Addr} {xs : List V} (e : Ex H H') (h : SqT K0 H a xs) : SqT K H' a xs := st0 (Evl.ex_t e h)
theorem rd_ex {H H' : Hp} {a : Addr} {u : HO} (e : Ex H H') (h : Rd H a u) : Rd H' a u := by
  rcases h with h | ⟨o, h⟩
  · exact .inl (e _ _ h)
  · exact .inr ⟨o, e _ _ h⟩
abbrev KVD {κ : Type} (K : PySem.W.Frag) (G : Hp) : List (κ × V) → List (κ × PyData) → Prop := Paired fun p q => p.1 = q.1 ∧ Dp K G p.2 q.2
def ExcAt (K : PySem.W.Frag) (n : Ad) (G : Hp) (v : V) : Prop :=
  match n with
  | .exc n => ∃ p C : Addr, v = .ref p ∧ PySem.W.nsIn K mainGlobals n = some (some (.ref C)) ∧ G p = some (excH p C)
  | .tz ds => ∃ p us, v = .ref p ∧ SqT K0 G p us ∧ DpAll K G us ds ∧ (us ≠ [] → ∃ (o : Obj) (r : Addr) (rs : List V), us = .ref r :: rs ∧ G p = some (.frz o (.tup us)) ∧ o.dict = none)
def SlOk (K : PySem.W.Frag) (B : Ba) (G H : Hp) (f : Option Addr) (s : Sl) (o : Option V) : Prop :=
  match s with
  | .any => f = none
  | .imm d => f = none ∧ ∃ v, o = some v ∧ Dp K G v d
  | .lst ds => ∃ p vs, f = some p ∧ o = some (.ref p) ∧ BoxP B G p ∧ H p = some (.lst vs) ∧ DpAll K G vs ds
  | .dK kvs => ∃ p es, f = some p ∧ o = some (.ref p) ∧ BoxP B G p ∧ H p = some (.dK es) ∧ KVD K G es kvs
  | .dT kvs => ∃ p es, f = some p ∧ o = some (.ref p) ∧ BoxP B G p ∧ H p = some (.dT es) ∧ KVD K G es kvs
  | .rK kvs => f = none ∧ ∃ p es, o = some (.ref p) ∧ G p = some (.dK es) ∧ KVD K G es kvs
  | .rT kvs => f = none ∧ ∃ p es, o = some (.ref p) ∧ Rd G p (.dT es) ∧ KVD K G es kvs
  | .opq k => f = none ∧ ∃ q, B.ops[k]? = some q ∧ o = some (.ref q.p)
  | .adr n => f = none ∧ ∃ v, o = some v ∧ ExcAt K n G v
abbrev Fps := List (Option Addr)
def fg (fps : Fps) (i : Nat) : Option Addr := fps.getD i none
def sg (σ : L2.St) (i : Nat) : Option V := σ.getD i none
structure Ok (K : PySem.W.Frag) (B : Ba) (G : Hp) (fps : Fps) (env : Env) (σ : L2.St) (H : Hp) : Prop where
  fra : Fra B G H
  lE : env.length = σ.length
  lF : fps.length = σ.length
  sl : ∀ i, SlOk K B G H (fg fps i) (gt env i) (sg σ i)
  dis : ∀ i j p, fg fps i = some p → fg fps j = some p → i = j

mutual
theorem dp_ex {K : PySem.W.Frag} {H H' : Hp} (e : Ex H H') : ∀ {v : V} {d : PyData}, Dp K H v d → Dp K H' v d
  | _, _, .non => .non
  | _, _, .bl b => .bl b
  | _, _, .int i => .int i
  | _, _, .str x => .str x
  | _, _, .lst h r => .lst (ex_l e h) (dpa_ex (K := K) e r)
  | _, _, .tup h r => .tup (ex_t e h) (dpa_ex (K := K) e r)
theorem dpa_ex {K : PySem.W.Frag} {H H' : Hp} (e : Ex H H') : ∀ {vs : List V} {ds : List PyData}, DpAll K H vs ds → DpAll K H' vs ds
  | _, _, .nil => .nil
  | _, _, .cons h r => .cons (dp_ex (K := K) e h) (dpa_ex (K := K) e r)
end
theorem ExcAt.ex {K : PySem.W.Frag} {n : Ad} {G G' : Hp} {v : V} (h : ExcAt K n G v) (e : Ex G G') : ExcAt K n G' v := by
  cases n with
  | exc n =>
    obtain ⟨p, C, h1, h2, h3⟩ := h
    exact ⟨p, C, h1, h2, e _ _ h3⟩
  | tz ds =>
    obtain ⟨p, us, h1, h2, h3, h4⟩ := h
    refine ⟨p, us, h1, Evl.ex_t e h2, dpa_ex e h3, fun hn => ?_⟩
    obtain ⟨o, r, rs, g1, g2, g3⟩ := h4 hn
    exact ⟨o, r, rs, g1, e _ _ g2, g3⟩
theorem kvd_ex {κ : Type} {K : PySem.W.Frag} {H H' : Hp} (e : Ex H H') {es : List (κ × V)} {kvs : List (κ × PyData)} (h : KVD K H es kvs) : KVD K H' es kvs := L2.Paired.mapP h fun _ _ q => ⟨q.1, dp_ex e q.2⟩
theorem dpa_len {K : PySem.W.Frag} {H : Hp} : ∀ {vs : List V} {ds : List PyData}, DpAll K H vs ds → vs.length = ds.length
  | _, _, .nil => rfl
  | _, _, .cons _ r => by simp [dpa_len (K := K) r]
theorem dpa_app {K : PySem.W.Frag} {H : Hp} : ∀ {vs ws : List V} {ds es : List PyData}, DpAll K H vs ds → DpAll K H ws es → DpAll K H (vs ++ ws) (ds ++ es)
  | _, _, _, _, .nil, h => h
  | _, _, _, _, .cons a r, h => .cons a (dpa_app (K := K) r h)
theorem dpa_get {K : PySem.W.Frag} {H : Hp} : ∀ {vs : List V} {ds : List PyData}, DpAll K H vs ds → ∀ {i : Nat} {d : PyData}, ds[i]? = some d → ∃ v, vs[i]? = some v ∧ Dp K H v d
  | _, _, .nil, i, d, h => by simp at h
  | _, _, .cons a r, 0, d, h => ⟨_, rfl, by simp at h; exact h ▸ a⟩
  | _, _, .cons a r, i + 1, d, h => by
    obtain ⟨v, h1, h2⟩ := dpa_get (K := K) r (i := i) (d := d) (by simpa using h)
    exact ⟨v, by simpa using h1, h2⟩
theorem dpa_get2 {K : PySem.W.Frag} {H : Hp} {vs : List V} {ds : List PyData} (h : DpAll K H vs ds) {i : Nat} {v : V} (e : vs[i]? = some v) : ∃ d, ds[i]? = some d ∧ Dp K H v d := by
  have l := dpa_len h
  have hi : i < vs.length := by
    rcases Nat.lt_or_ge i vs.length with h | h
    · exact h
    · simp [List.getElem?_eq_none h] at e
  obtain ⟨v', h1, h2⟩ := dpa_get h (i := i) (d := ds[i]'(by omega)) (by simp)
  rw [e] at h1
  cases h1
  exact ⟨_, List.getElem?_eq_getElem (by omega), h2⟩
theorem dpa_take {K : PySem.W.Frag} {H : Hp} : ∀ {vs : List V} {ds : List PyData} (n : Nat), DpAll K H vs ds → DpAll K H (vs.take n) (ds.take n)
  | _, _, 0, _ => by simp; exact .nil
  | _, _, n + 1, .nil => by simp; exact .nil
  | _, _, n + 1, .cons a r => by simp only [List.take_succ_cons]; exact .cons a (dpa_take (K := K) n r)
theorem dpa_drop {K : PySem.W.Frag} {H : Hp} : ∀ {vs : List V} {ds : List PyData} (n : Nat), DpAll K H vs ds → DpAll K H (vs.drop n) (ds.drop n)
  | _, _, 0, h => by simpa using h
  | _, _, n + 1, .nil => by simp; exact .nil
  | _, _, n + 1, .cons a r => by simpa using dpa_drop (K := K) n r
theorem dpa_set {K : PySem.W.Frag} {H : Hp} {v : V} {d : PyData} (h : Dp K H v d) : ∀ {vs : List V} {ds : List PyData} (n : Nat), DpAll K H vs ds → DpAll K H (vs.set n v) (ds.set n d)
  | _, _, _, .nil => by simp; exact .nil
  | _, _, 0, .cons a r => by simp; exact .cons h r
  | _, _, n + 1, .cons a r => by simp; exact .cons a (dpa_set (K := K) h n r)
theorem dpa_erase {K : PySem.W.Frag} {H : Hp} : ∀ {vs : List V} {ds : List PyData} (n : Nat), DpAll K H vs ds → DpAll K H (vs.eraseIdx n) (ds.eraseIdx n)
  | _, _, _, .nil => by simp; exact .nil
  | _, _, 0, .cons a r => r
  | _, _, n + 1, .cons a r => by simp only [List.eraseIdx_cons_succ]; exact .cons a (dpa_erase (K := K) n r)
theorem dpa_rev {K : PySem.W.Frag} {H : Hp} : ∀ {vs : List V} {ds : List PyData}, DpAll K H vs ds → DpAll K H vs.reverse ds.reverse
  | _, _, .nil => .nil
  | _, _, .cons a r => by simp; exact dpa_app (K := K) (dpa_rev (K := K) r) (.cons a .nil)

/-! ### lists with defaults -/
theorem getD_set {a : Type} (l : List a) (i j : Nat) (x d : a) : (l.set i x).getD j d = if i = j ∧ j < l.length then x else l.getD j d := by
  simp only [List.getD_eq_getElem?_getD, List.getElem?_set]
  by_cases h : i = j
  · subst h
    by_cases h2 : i < l.length
    · simp [h2]
    · simp [h2, List.getElem?_eq_none (Nat.le_of_not_lt h2)]
  · simp [h]
theorem getD_out {a : Type} (l : List a) (i : Nat) (d : a) (h : l.length ≤ i) : l.getD i d = d := by simp [List.getD_eq_getElem?_getD, List.getElem?_eq_none h]
theorem sg_some {σ : L2.St} {i : Nat} {v : V} (h : sg σ i = some v) : σ[i]? = some (some v) := by
  unfold sg at h
  rw [List.getD_eq_getElem?_getD] at h
  cases e : σ[i]? with
  | none => rw [e] at h; cases h
  | some o => rw [e] at h; simp at h; rw [h]
theorem gt_lt {env : Env} {i : Nat} (h : gt env i ≠ .any) : i < env.length := by
  rcases Nat.lt_or_ge i env.length with h1 | h1
  · exact h1
  · exact absurd (getD_out env i .any h1) h

section
variable {K : PySem.W.Frag} {B : Ba} {G H : Hp} {fps : Fps} {env : Env} {σ : L2.St}
theorem ne_fr {H : Hp} {a p : Addr} (h : H a ≠ none) (hp : H p = none) : a ≠ p := fun e => h (by rw [e]; exact hp)
theorem Fra.alloc {p : Addr} {o : HO} (h : Fra B G H) (hp : H p = none) (ho : NF o := by trivial) : Fra B (upd G p o) (upd H p o) ∧ Ex G (upd G p o) ∧ G p = none := by
  have gp : G p = none := fresh_back h.ex hp
  have e1 : Ex G (upd G p o) := Ex.new gp
  refine ⟨⟨?_, h.old.trans e1, ?_, ?_, ?_, ?_, h.opH, h.po, h.one, h.st, h.cl.upd ho, ?_⟩, e1, gp⟩
  rotate_left 5
  · intro a xs e
    by_cases c : a = p
    · subst c; rw [upd_same] at e ⊢; exact e
    · rw [upd_ne c] at e ⊢; exact h.tu a xs e
  · intro a u ha
    by_cases e : a = p
    · subst e; rw [upd_same] at ha ⊢; exact ha
    · rw [upd_ne e] at ha ⊢; exact h.ex a u ha
  · intro a u ha hm
    have q := h.keep a u ha hm
    rw [upd_ne (ne_of_none q hp)]; exact q
  · intro a ha
    have q := h.trk a ha
    rw [upd_ne (ne_fr q hp)]; exact q
  · intro a ha hg
    have q := h.trk a ha
    rw [upd_ne (ne_fr q hp)]; exact h.new a ha hg
  · intro q hq
    have c := h.ops q hq
    have nm := q.mem H c.1
    refine ⟨q.loc H _ (fun a ha => upd_ne (ne_fr (nm a ha) hp)) (.new hp) c.1, fun a ha => ⟨?_, (c.2 a ha).2⟩⟩
    rw [upd_ne (ne_fr (nm a ha) hp)]; exact (c.2 a ha).1
/-- a new thing that stays out of the fixed part -/
theorem Fra.lay {p : Addr} {o : HO} (h : Fra B G H) (hp : H p = none) (ho : NT o := by trivial) : Fra B G (upd H p o) := by
  refine ⟨h.ex.trans (Ex.new hp), h.old, ?_, ?_, h.new, ?_, h.opH, h.po, h.one, h.st, h.cl, fun a xs e => ?_⟩
  rotate_left 3
  · by_cases c : a = p
    · subst c; rw [upd_same] at e; cases e; exact ho.elim
    · rw [upd_ne c] at e; exact h.tu a xs e
  · intro a u ha hm
    have q := h.keep a u ha hm
    rw [upd_ne (ne_of_none q hp)]; exact q
  · intro a ha
    have q := h.trk a ha
    rw [upd_ne (ne_fr q hp)]; exact q
  · intro q hq
    have c := h.ops q hq
    have nm := q.mem H c.1
    exact ⟨q.loc H _ (fun a ha => upd_ne (ne_fr (nm a ha) hp)) (.new hp) c.1, c.2⟩
/-- a box changes -/
theorem Fra.wr {p : Addr} {o : HO} (h : Fra B G H) (b : BoxP B G p) (hz : ∀ ob u, H p ≠ some (.frz ob u)) (ho : NT o := by trivial) : Fra B G (upd H p o) := by
  refine ⟨h.ex.mut b.1, h.old, ?_, ?_, h.new, ?_, h.opH, h.po, h.one, h.st, h.cl, fun a xs e => ?_⟩
  rotate_left 3
  · by_cases c : a = p
    · subst c; rw [upd_same] at e; cases e; exact ho.elim
    · rw [upd_ne c] at e; exact h.tu a xs e
  · intro a u ha hm
    have ne : a ≠ p := by
      rintro rfl
      rcases b.2.1 with q | q
      · exact hm q
      · rw [q] at ha; cases ha
    rw [upd_ne ne]; exact h.keep a u ha hm
  · intro a ha
    by_cases e : a = p
    · subst e; rw [upd_same]; simp
    · rw [upd_ne e]; exact h.trk a ha
  · intro q hq
    have c := h.ops q hq
    exact ⟨q.loc H _ (fun a ha => upd_ne fun e => b.2.2 q hq (e ▸ ha)) (.of fun xs r => by
      have := h.tu p xs r
      rw [b.1] at this; cases this) c.1, c.2⟩
theorem SlOk.mono {G' H' : Hp} {f : Option Addr} {s : Sl} {o : Option V} (e : Ex G G') (hb : ∀ p, f = some p → BoxP B G p → BoxP B G' p) (hh : ∀ p, f = some p → H' p = H p) (h : SlOk K B G H f s o) : SlOk K B G' H' f s o := by
  cases s with
  | any => exact h
  | imm d => exact ⟨h.1, h.2.elim fun v q => ⟨v, q.1, dp_ex e q.2⟩⟩
  | lst ds => obtain ⟨p, vs, h1, h2, h3, h4, h5⟩ := h; exact ⟨p, vs, h1, h2, hb p h1 h3, (hh p h1).trans h4, dpa_ex e h5⟩
  | dK kvs => obtain ⟨p, vs, h1, h2, h3, h4, h5⟩ := h; exact ⟨p, vs, h1, h2, hb p h1 h3, (hh p h1).trans h4, kvd_ex e h5⟩
  | dT kvs => obtain ⟨p, vs, h1, h2, h3, h4, h5⟩ := h; exact ⟨p, vs, h1, h2, hb p h1 h3, (hh p h1).trans h4, kvd_ex e h5⟩
  | rK kvs => obtain ⟨h0, p, vs, h1, h2, h3⟩ := h; exact ⟨h0, p, vs, h1, e _ _ h2, kvd_ex e h3⟩
  | rT kvs => obtain ⟨h0, p, vs, h1, h2, h3⟩ := h; exact ⟨h0, p, vs, h1, rd_ex e h2, kvd_ex e h3⟩
  | opq k => exact h
  | adr k => obtain ⟨h0, v, h1, h2⟩ := h; exact ⟨h0, v, h1, h2.ex e⟩
theorem SlOk.box {f : Option Addr} {s : Sl} {o : Option V} {p : Addr} (h : SlOk K B G H f s o) (e : f = some p) : BoxP B G p ∧ H p ≠ none ∧ o = some (.ref p) := by
  cases s with
  | any => rw [show f = none from h] at e; cases e
  | imm d => rw [h.1] at e; cases e
  | lst ds => obtain ⟨q, vs, h1, h2, h3, h4, h5⟩ := h; rw [h1] at e; cases e; exact ⟨h3, by rw [h4]; simp, h2⟩
  | dK kvs => obtain ⟨q, vs, h1, h2, h3, h4, h5⟩ := h; rw [h1] at e; cases e; exact ⟨h3, by rw [h4]; simp, h2⟩
  | dT kvs => obtain ⟨q, vs, h1, h2, h3, h4, h5⟩ := h; rw [h1] at e; cases e; exact ⟨h3, by rw [h4]; simp, h2⟩
  | rK k => rw [h.1] at e; cases e
  | rT k => rw [h.1] at e; cases e
  | opq k => rw [h.1] at e; cases e
  | adr k => rw [h.1] at e; cases e
theorem SlOk.noFrz {f : Option Addr} {s : Sl} {o : Option V} {p : Addr} (h : SlOk K B G H f s o) (e : f = some p) : ∀ ob u, H p ≠ some (.frz ob u) := fun ob u z => by
  cases s with
  | any => rw [show f = none from h] at e; cases e
  | imm d => rw [h.1] at e; cases e
  | lst ds => obtain ⟨q, vs, h1, h2, h3, h4, h5⟩ := h; rw [h1] at e; cases e; rw [h4] at z; cases z
  | dK kvs => obtain ⟨q, vs, h1, h2, h3, h4, h5⟩ := h; rw [h1] at e; cases e; rw [h4] at z; cases z
  | dT kvs => obtain ⟨q, vs, h1, h2, h3, h4, h5⟩ := h; rw [h1] at e; cases e; rw [h4] at z; cases z
  | rK k => rw [h.1] at e; cases e
  | rT k => rw [h.1] at e; cases e
  | opq k => rw [h.1] at e; cases e
  | adr k => rw [h.1] at e; cases e
theorem Ok.alloc {p : Addr} {o : HO} (h : Ok K B G fps env σ H) (hp : H p = none) (ho : NF o := by trivial) : Ok K B (upd G p o) fps env σ (upd H p o) ∧ Ex G (upd G p o) := by
  obtain ⟨f, e, gp⟩ := h.fra.alloc (o := o) hp ho
  refine ⟨⟨f, h.lE, h.lF, fun i => ?_, h.dis⟩, e⟩
  refine (h.sl i).mono e (fun q hq b => ?_) (fun q hq => ?_)
  · have nn := ((h.sl i).box hq).2.1
    exact ⟨by rw [upd_ne (ne_fr nn hp)]; exact b.1, b.2⟩
  · have nn := ((h.sl i).box hq).2.1
    exact upd_ne (ne_fr nn hp)
theorem Ok.lay {p : Addr} {o : HO} (h : Ok K B G fps env σ H) (hp : H p = none) (ho : NT o := by trivial) : Ok K B G fps env σ (upd H p o) := by
  refine ⟨h.fra.lay hp ho, h.lE, h.lF, fun i => ?_, h.dis⟩
  refine (h.sl i).mono (Ex.refl _) (fun q hq b => b) (fun q hq => ?_)
  have nn := ((h.sl i).box hq).2.1
  exact upd_ne (ne_fr nn hp)
/-- a thing outside of all boxes and of the fixed part changes (a new list on the way) -/
theorem Ok.wrO {p : Addr} {o : HO} (h : Ok K B G fps env σ H) (b : BoxP B G p) (hf : ∀ i, fg fps i ≠ some p) (hz : ∀ ob u, H p ≠ some (.frz ob u)) (ho : NT o := by trivial) : Ok K B G fps env σ (upd H p o) := by
  refine ⟨h.fra.wr b hz ho, h.lE, h.lF, fun i => ?_, h.dis⟩
  refine (h.sl i).mono (Ex.refl _) (fun q hq b => b) (fun q hq => ?_)
  exact upd_ne fun e => hf i (e ▸ hq)
theorem fg_set {i j : Nat} {x : Option Addr} : fg (fps.set i x) j = if i = j ∧ j < fps.length then x else fg fps j := getD_set ..
theorem gt_set {i j : Nat} {x : Sl} : gt (env.set i x) j = if i = j ∧ j < env.length then x else gt env j := getD_set ..
theorem sg_set {i j : Nat} {x : Option V} : sg (σ.set i x) j = if i = j ∧ j < σ.length then x else sg σ j := getD_set ..
/-- a slot is stored -/
theorem Ok.put {i : Nat} {f : Option Addr} {s : Sl} {o : Option V} (h : Ok K B G fps env σ H) (hs : SlOk K B G H f s o) (hf : ∀ p j, f = some p → fg fps j = some p → j = i) : Ok K B G (fps.set i f) (env.set i s) (σ.set i o) H := by
  refine ⟨h.fra, by simp [h.lE], by simp [h.lF], fun j => ?_, fun j k p hj hk => ?_⟩
  · rw [fg_set, gt_set, sg_set, h.lE, h.lF]
    by_cases c : i = j ∧ j < σ.length
    · rw [if_pos c, if_pos c, if_pos c]; exact hs
    · rw [if_neg c, if_neg c, if_neg c]; exact h.sl j
  · rw [fg_set] at hj hk
    by_cases c1 : i = j ∧ j < fps.length <;> by_cases c2 : i = k ∧ k < fps.length
    · exact c1.1.symm.trans c2.1
    · rw [if_pos c1] at hj; rw [if_neg c2] at hk
      have := hf p k hj hk
      exact c1.1.symm.trans this.symm
    · rw [if_neg c1] at hj; rw [if_pos c2] at hk
      have := hf p j hk hj
      exact this.trans c2.1
    · rw [if_neg c1] at hj; rw [if_neg c2] at hk
      exact h.dis j k p hj hk
/-- a slot is forgotten -/
theorem Ok.kill (h : Ok K B G fps env σ H) (i : Nat) : Ok K B G (fps.set i none) (env.set i .any) σ H := by
  refine ⟨h.fra, by simp [h.lE], by simp [h.lF], fun j => ?_, fun j k p hj hk => ?_⟩
  · rw [fg_set, gt_set, h.lE, h.lF]
    by_cases c : i = j ∧ j < σ.length
    · rw [if_pos c, if_pos c]; exact rfl
    · rw [if_neg c, if_neg c]; exact h.sl j
  · rw [fg_set] at hj hk
    by_cases c1 : i = j ∧ j < fps.length
    · rw [if_pos c1] at hj; cases hj
    · by_cases c2 : i = k ∧ k < fps.length
      · rw [if_pos c2] at hk; cases hk
      · rw [if_neg c1] at hj; rw [if_neg c2] at hk; exact h.dis j k p hj hk
end
end Z
namespace Z
variable [PoC]
open PySem PySem.Spec PyProof.Rows L2
open Evl (Ex fresh_back)

/-! ### the view of an expression: boxes are read, never written -/
def fpsOf (ops : List Opq) : List Addr := ops.flatMap (·.fp)
theorem mem_fpsOf {ops : List Opq} {a : Addr} : a ∈ fpsOf ops ↔ ∃ q ∈ ops, a ∈ q.fp := by simp [fpsOf]
def SlV (K : PySem.W.Frag) (B : Ba) (G : Hp) (s : Sl) (o : Option V) : Prop :=
  match s with
  | .any => True
  | .imm d => ∃ v, o = some v ∧ Dp K G v d
  | .lst ds => ∃ p vs, o = some (.ref p) ∧ p ∉ B.mu ∧ B.H p = some (.lst vs) ∧ B.G p = none ∧ DpAll K B.G vs ds
  | .dK kvs => ∃ p es, o = some (.ref p) ∧ p ∉ B.mu ∧ B.H p = some (.dK es) ∧ B.G p = none ∧ KVD K B.G es kvs
  | .dT kvs => ∃ p es, o = some (.ref p) ∧ p ∉ B.mu ∧ B.H p = some (.dT es) ∧ B.G p = none ∧ KVD K B.G es kvs
  | .rK kvs => ∃ p es, o = some (.ref p) ∧ G p = some (.dK es) ∧ KVD K G es kvs
  | .rT kvs => ∃ p es, o = some (.ref p) ∧ Rd G p (.dT es) ∧ KVD K G es kvs
  | .opq k => ∃ q, B.ops[k]? = some q ∧ o = some (.ref q.p)
  | .adr n => ∃ v, o = some v ∧ ExcAt K n G v
structure ROk (K : PySem.W.Frag) (B : Ba) (G : Hp) (env : Env) (σ : L2.St) (H : Hp) : Prop where
  fra : Fra B G H
  lE : env.length = σ.length
  sl : ∀ i, SlV K B G (gt env i) (sg σ i)
abbrev bas (G H : Hp) (mu : List Addr) (ops : List Opq) : Ba := ⟨G, H, mu, ops⟩
section
variable {K : PySem.W.Frag} {B : Ba} {G H G' H' : Hp} {fps : Fps} {env : Env} {σ : L2.St}
theorem SlV.mono {s : Sl} {o : Option V} (e : Ex G G') (h : SlV K B G s o) : SlV K B G' s o := by
  cases s with
  | imm d => exact h.elim fun v q => ⟨v, q.1, dp_ex e q.2⟩
  | rK d => obtain ⟨p, es, h1, h2, h3⟩ := h; exact ⟨p, es, h1, e _ _ h2, kvd_ex e h3⟩
  | rT d => obtain ⟨p, es, h1, h2, h3⟩ := h; exact ⟨p, es, h1, rd_ex e h2, kvd_ex e h3⟩
  | adr n => obtain ⟨v, h1, h2⟩ := h; exact ⟨v, h1, h2.ex e⟩
  | _ => exact h
theorem ROk.go (h : ROk K B G env σ H) (e : Ex G G') (f : Fra B G' H') : ROk K B G' env σ H' := ⟨f, h.lE, fun i => (h.sl i).mono e⟩
theorem Fra.free (h : Fra B G H) {p : Addr} (hp : H p = none) : B.H p = none := by
  cases c : B.H p with
  | none => rfl
  | some o => exact absurd hp (h.trk p (by rw [c]; simp))
theorem Fra.at (h : Fra B G H) (mu : List Addr) (hm : ∀ q ∈ B.ops, ∀ a ∈ q.fp, a ∈ mu) : Fra (bas G H mu B.ops) G H :=
  ⟨h.ex, Ex.refl _, fun _ _ e _ => e, fun _ e => e, fun _ _ e => e, fun q hq => ⟨(h.ops q hq).1, fun a ha => ⟨((h.ops q hq).2 a ha).1, hm q hq a ha⟩⟩, fun q hq a ha => q.mem H (h.ops q hq).1 a ha, h.po, h.one, h.st.trans h.old, h.cl, h.tu⟩
theorem Fra.back {mu : List Addr} (h : Fra B G H) (hm : ∀ a, a ∈ mu → a ∈ B.mu ∨ B.H a = none) (f : Fra (bas G H mu B.ops) G' H') : Fra B G' H' := by
  refine ⟨f.ex, h.old.trans f.old, ?_, fun a ha => f.trk a (h.trk a ha), fun a ha hg => f.new a (h.trk a ha) (h.new a ha hg), fun q hq => ⟨(f.ops q hq).1, fun a ha => ⟨((f.ops q hq).2 a ha).1, ((h.ops q hq).2 a ha).2⟩⟩, h.opH, h.po, h.one, h.st, f.cl, f.tu⟩
  intro a o ha hn
  refine f.keep a o (h.keep a o ha hn) fun q => ?_
  rcases hm a q with z | z
  · exact hn z
  · rw [z] at ha; cases ha
theorem ROk.rebase (h : ROk K B G env σ H) : ROk K (bas G H B.mu B.ops) G env σ H := by
  refine ⟨h.fra.at B.mu fun q hq a ha => ((h.fra.ops q hq).2 a ha).2, h.lE, fun i => ?_⟩
  have s := h.sl i
  cases e : gt env i with
  | any => exact trivial
  | imm d => rw [e] at s; exact s
  | lst ds =>
    rw [e] at s
    obtain ⟨p, vs, h1, h2, h3, h4, h5⟩ := s
    exact ⟨p, vs, h1, h2, h.fra.keep p _ h3 h2, h.fra.new p (by rw [h3]; simp) h4, dpa_ex h.fra.old h5⟩
  | dK kvs =>
    rw [e] at s
    obtain ⟨p, vs, h1, h2, h3, h4, h5⟩ := s
    exact ⟨p, vs, h1, h2, h.fra.keep p _ h3 h2, h.fra.new p (by rw [h3]; simp) h4, kvd_ex h.fra.old h5⟩
  | dT kvs =>
    rw [e] at s
    obtain ⟨p, vs, h1, h2, h3, h4, h5⟩ := s
    exact ⟨p, vs, h1, h2, h.fra.keep p _ h3 h2, h.fra.new p (by rw [h3]; simp) h4, kvd_ex h.fra.old h5⟩
  | rK k => rw [e] at s; exact s
  | rT k => rw [e] at s; exact s
  | opq k => rw [e] at s; exact s
  | adr k => rw [e] at s; exact s
theorem Fra.back' (h : Fra B G H) (f : Fra (bas G H B.mu B.ops) G' H') : Fra B G' H' := h.back (fun _ => .inl) f
/-- a statement's state as an expression sees it -/
theorem Ok.view (h : Ok K B G fps env σ H) : ROk K (bas G H (fpsOf B.ops) B.ops) G env σ H := by
  refine ⟨h.fra.at _ fun q hq a ha => mem_fpsOf.mpr ⟨q, hq, ha⟩, h.lE, fun i => ?_⟩
  have s := h.sl i
  cases e : gt env i with
  | any => exact trivial
  | imm d => rw [e] at s; exact s.2
  | lst ds =>
    rw [e] at s
    obtain ⟨p, vs, h1, h2, h3, h4, h5⟩ := s
    exact ⟨p, vs, h2, fun z => (mem_fpsOf.mp z).elim fun q w => h3.2.2 q w.1 w.2, h4, h3.1, h5⟩
  | dK ds =>
    rw [e] at s
    obtain ⟨p, vs, h1, h2, h3, h4, h5⟩ := s
    exact ⟨p, vs, h2, fun z => (mem_fpsOf.mp z).elim fun q w => h3.2.2 q w.1 w.2, h4, h3.1, h5⟩
  | dT ds =>
    rw [e] at s
    obtain ⟨p, vs, h1, h2, h3, h4, h5⟩ := s
    exact ⟨p, vs, h2, fun z => (mem_fpsOf.mp z).elim fun q w => h3.2.2 q w.1 w.2, h4, h3.1, h5⟩
  | rK k => rw [e] at s; exact s.2
  | rT k => rw [e] at s; exact s.2
  | opq k => rw [e] at s; exact s.2
  | adr k => rw [e] at s; exact s.2
theorem Ok.back (h : Ok K B G fps env σ H) (f : Fra (bas G H (fpsOf B.ops) B.ops) G' H') : Ok K B G' fps env σ H' := by
  refine ⟨h.fra.back (fun a z => ?_) f, h.lE, h.lF, fun i => ?_, h.dis⟩
  · obtain ⟨q, hq, ha⟩ := mem_fpsOf.mp z
    exact .inl ((h.fra.ops q hq).2 a ha).2
  · refine (h.sl i).mono f.old (fun p hp b => ?_) (fun p hp => ?_)
    · have nn := ((h.sl i).box hp).2.1
      exact ⟨f.new p nn b.1, b.2⟩
    · obtain ⟨b, nn, _⟩ := (h.sl i).box hp
      cases e : H p with
      | none => exact absurd e nn
      | some o => exact f.keep p o e fun z => (mem_fpsOf.mp z).elim fun q w => b.2.2 q w.1 w.2
end

/-! ### judgements -/
def TJ (K : PySem.W.Frag) (te : TE) (m : Env → W PyData) : Prop :=
  ∀ (B : Ba) (G : Hp) (env : Env) (σ : L2.St) (H : Hp), ROk K B G env σ H → ∀ Q : VK, ((m env).run fun d => ∀ v G' H', Ex G G' → Fra B G' H' → Dp K G' v d → Q v H') → te σ H Q
/-- a new list -/
def TJL (K : PySem.W.Frag) (te : TE) (m : Env → W (List PyData)) : Prop :=
  ∀ (B : Ba) (G : Hp) (env : Env) (σ : L2.St) (H : Hp), ROk K B G env σ H → ∀ Q : VK,
    ((m env).run fun ds => ∀ p vs G' H', Ex G G' → Fra B G' H' → B.H p = none → G' p = none → H' p = some (.lst vs) → DpAll K G' vs ds → Q (.ref p) H') → te σ H Q
def TJT (K : PySem.W.Frag) (tt : TT) (m : Env → W Bool) : Prop :=
  ∀ (B : Ba) (G : Hp) (env : Env) (σ : L2.St) (H : Hp), ROk K B G env σ H → ∀ Q : Bool → Hp → Prop, ((m env).run fun b => ∀ G' H', Ex G G' → Fra B G' H' → Q b H') → tt σ H Q
/-- arguments: data -/
def TJD (K : PySem.W.Frag) (ta : TA) (m : Env → W (List PyData)) : Prop :=
  ∀ (B : Ba) (G : Hp) (env : Env) (σ : L2.St) (H : Hp), ROk K B G env σ H → ∀ Q : List V → Hp → Prop, ((m env).run fun ds => ∀ vs G' H', Ex G G' → Fra B G' H' → DpAll K G' vs ds → Q vs H') → ta σ H Q
def ArgOk (K : PySem.W.Frag) (ops : List Opq) (G : Hp) (v : V) (s : Sl) : Prop :=
  match s with
  | .imm d => Dp K G v d
  | .rK kvs => ∃ p es, v = .ref p ∧ G p = some (.dK es) ∧ KVD K G es kvs
  | .rT kvs => ∃ p es, v = .ref p ∧ Rd G p (.dT es) ∧ KVD K G es kvs
  | .opq k => ∃ q, ops[k]? = some q ∧ v = .ref q.p
  | .adr n => ExcAt K n G v
  | _ => False
theorem ArgOk.mono {K : PySem.W.Frag} {ops : List Opq} {G G' : Hp} {v : V} {s : Sl} (e : Ex G G') (h : ArgOk K ops G v s) : ArgOk K ops G' v s := by
  cases s with
  | imm d => exact dp_ex (K := K) e h
  | rK d => obtain ⟨p, es, h1, h2, h3⟩ := h; exact ⟨p, es, h1, e _ _ h2, kvd_ex e h3⟩
  | rT d => obtain ⟨p, es, h1, h2, h3⟩ := h; exact ⟨p, es, h1, rd_ex e h2, kvd_ex e h3⟩
  | adr n => exact ExcAt.ex h e
  | _ => exact h
/-- arguments: data and things whose inside does not matter -/
def TJA (K : PySem.W.Frag) (ta : TA) (m : Env → W (List Sl)) : Prop :=
  ∀ (B : Ba) (G : Hp) (env : Env) (σ : L2.St) (H : Hp), ROk K B G env σ H → ∀ Q : List V → Hp → Prop, ((m env).run fun ss => ∀ vs G' H', Ex G G' → Fra B G' H' → Paired (ArgOk K B.ops G') vs ss → Q vs H') → ta σ H Q

section
variable {K : PySem.W.Frag} {te ta tb : TE} {m ma mb : Env → W PyData}
def mFrz (ml : Env → W (List PyData)) : Env → W PyData := fun env => do let ds ← ml env; pure (.list ds)
theorem tj_frz {ml : Env → W (List PyData)} (h : TJL K te ml) : TJ K te (mFrz ml) := fun B G env σ H ok Q q =>
  h B G env σ H ok Q ((ml env).mono (fun ds k p vs G' H' e f h0 hg hp hd => by
    have e1 : Ex G' (upd G' p (.lst vs)) := Ex.new hg
    refine k (.ref p) (upd G' p (.lst vs)) H' (e.trans e1) ?_ (.lst (Or.inl (Or.inl upd_same)) (dpa_ex e1 hd))
    refine ⟨fun a o ha => ?_, f.old.trans e1, f.keep, f.trk, fun a ha hb => ?_, fun q hq => ⟨(f.ops q hq).1, fun a ha => ⟨?_, ((f.ops q hq).2 a ha).2⟩⟩, f.opH, f.po, f.one, f.st, f.cl.upd trivial, fun a xs e => ?_⟩
    rotate_left 3
    · have := f.tu a xs e
      rw [upd_ne (fun c => by subst c; rw [hp] at e; cases e)]; exact this
    · by_cases c : a = p
      · subst c; rw [upd_same] at ha; rw [hp]; exact ha
      · rw [upd_ne c] at ha; exact f.ex a o ha
    · rw [upd_ne (ne_fr ha h0)]; exact f.new a ha hb
    · rw [upd_ne (ne_fr (f.opH q hq a ha) h0)]; exact ((f.ops q hq).2 a ha).1) q)

def mVar (i : Nat) : Env → W PyData := fun env => match gt env i with | .imm d => pure d | .adr (.tz ds) => pure (.tuple ds) | _ => W.fail
theorem tj_var {i : Nat} : TJ K (tVar i) (mVar i) := fun B G env σ H ok Q q => by
  have s := ok.sl i
  unfold mVar at q
  cases e : gt env i with
  | imm d =>
    rw [e] at s q
    obtain ⟨v, h1, h2⟩ := s
    exact ⟨v, sg_some h1, q v G H (Ex.refl _) ok.fra h2⟩
  | adr a =>
    cases a with
    | exc n => rw [e] at q; exact q.elim
    | tz ds =>
      rw [e] at s q
      obtain ⟨v, h1, p, us, rfl, h3, h4, _⟩ := s
      exact ⟨_, sg_some h1, q _ G H (Ex.refl _) ok.fra (.tup h3 h4)⟩
  | _ => rw [e] at q; exact q.elim
def mC (d : PyData) : Env → W PyData := fun _ => pure d
theorem tj_c {v : V} {d : PyData} (h : ∀ G, Dp K G v d) : TJ K (tC v) (mC d) := fun B G env σ H ok Q q => q v G H (Ex.refl _) ok.fra (h G)
theorem tj_int {i : Int} : TJ K (tC (.int i)) (mC (.int i)) := tj_c fun _ => .int i
theorem tj_str {x : Str} : TJ K (tC (.str x)) (mC (.str x)) := tj_c fun _ => .str x
theorem tj_bl {b : Bool} : TJ K (tC (.bl b)) (mC (.bool b)) := tj_c fun _ => .bl b
theorem tj_non : TJ K (tC .non) (mC .none) := tj_c fun _ => .non

/-- a step on values: the heap as it was, or with one thing more -/
inductive Stp (G H : Hp) : Hp → Hp → Prop
  | same : Stp G H G H
  | new {p : Addr} {o : HO} (h : H p = none) (ho : NF o := by trivial) : Stp G H (upd G p o) (upd H p o)
theorem Stp.fra {B : Ba} {G H G' H' : Hp} (s : Stp G H G' H') (f : Fra B G H) : Fra B G' H' ∧ Ex G G' := by
  cases s with
  | same => exact ⟨f, Ex.refl _⟩
  | new h ho => exact ⟨(f.alloc h ho).1, (f.alloc h ho).2.1⟩
def OJ (K : PySem.W.Frag) (r : R2) (f : PyData → PyData → W PyData) : Prop :=
  ∀ (G H : Hp) (x y : V) (dx dy : PyData), Ex G H → Dp K G x dx → Dp K G y dy → ∀ Q : VK, ((f dx dy).run fun d => ∀ v G' H', Stp G H G' H' → Dp K G' v d → Q v H') → r x y H Q
def m2 (f : PyData → PyData → W PyData) (ma mb : Env → W PyData) : Env → W PyData := fun env => do let a ← ma env; let b ← mb env; f a b
theorem tj_op {r : R2} {f : PyData → PyData → W PyData} (hr : OJ K r f) (ha : TJ K ta ma) (hb : TJ K tb mb) : TJ K (tOp r ta tb) (m2 f ma mb) := fun B G env σ H ok Q q =>
  ha B G env σ H ok _ ((ma env).mono (fun a q1 v G1 H1 e1 f1 d1 => hb B G1 env σ H1 (ok.go e1 f1) _ ((mb env).mono (fun b q2 u G2 H2 e2 f2 d2 =>
    hr G2 H2 v u a b f2.ex (dp_ex e2 d1) d2 Q ((f a b).mono (fun d q3 w G3 H3 st d3 => q3 w G3 H3 ((e1.trans e2).trans (st.fra f2).2) (st.fra f2).1 d3) q2)) q1)) q)
def UJ (K : PySem.W.Frag) (r : V → Hp → VK → Prop) (f : PyData → W PyData) : Prop :=
  ∀ (G H : Hp) (x : V) (dx : PyData), Ex G H → Dp K G x dx → ∀ Q : VK, ((f dx).run fun d => ∀ v G' H', Stp G H G' H' → Dp K G' v d → Q v H') → r x H Q
def m1 (f : PyData → W PyData) (ma : Env → W PyData) : Env → W PyData := fun env => do let a ← ma env; f a
theorem tj_un {r : V → Hp → VK → Prop} {f : PyData → W PyData} (hr : UJ K r f) (ha : TJ K ta ma) : TJ K (tUn r ta) (m1 f ma) := fun B G env σ H ok Q q =>
  ha B G env σ H ok _ ((ma env).mono (fun a q1 v G1 H1 e1 f1 d1 => hr G1 H1 v a f1.ex d1 Q ((f a).mono (fun d q3 w G3 H3 st d3 => q3 w G3 H3 (e1.trans (st.fra f1).2) (st.fra f1).1 d3) q1)) q)
/-! arguments, displays, calls of built-ins -/
def mNil : Env → W (List PyData) := fun _ => pure []
def mCons (ma : Env → W PyData) (mr : Env → W (List PyData)) : Env → W (List PyData) := fun env => do let a ← ma env; let r ← mr env; pure (a :: r)
theorem tjd_nil : TJD K tNil mNil := fun B G env σ H ok Q q => q [] G H (Ex.refl _) ok.fra .nil
theorem tjd_cons {t : TA} {mr : Env → W (List PyData)} (ha : TJ K ta ma) (hr : TJD K t mr) : TJD K (tCons ta t) (mCons ma mr) := fun B G env σ H ok Q q =>
  ha B G env σ H ok _ ((ma env).mono (fun a q1 v G1 H1 e1 f1 d1 => hr B G1 env σ H1 (ok.go e1 f1) _ ((mr env).mono (fun r q2 vs G2 H2 e2 f2 d2 => q2 (v :: vs) G2 H2 (e1.trans e2) f2 (.cons (dp_ex e2 d1) d2)) q1)) q)
def mTup (mr : Env → W (List PyData)) : Env → W PyData := fun env => do let r ← mr env; W.need (r.length ≤ sizeLine); pure (.tuple r)
theorem tj_tup {t : TA} {mr : Env → W (List PyData)} (hr : TJD K t mr) : TJ K (tTup t) (mTup mr) := fun B G env σ H ok Q q =>
  hr B G env σ H ok _ ((mr env).mono (fun r q1 vs G1 H1 e1 f1 d1 => ⟨by rw [dpa_len d1]; exact q1.1, fun p hp => by
    obtain ⟨f2, e2, g2⟩ := f1.alloc (o := .tup vs) hp
    exact q1.2 (.ref p) _ _ (e1.trans e2) f2 (.tup (Or.inl (Or.inl upd_same)) (dpa_ex e2 d1))⟩) q)
def mLst (mr : Env → W (List PyData)) : Env → W (List PyData) := fun env => do let r ← mr env; W.need (r.length ≤ sizeLine); pure r
theorem tjl_lst {t : TA} {mr : Env → W (List PyData)} (hr : TJD K t mr) : TJL K (tLst t) (mLst mr) := fun B G env σ H ok Q q =>
  hr B G env σ H ok _ ((mr env).mono (fun r q1 vs G1 H1 e1 f1 d1 => ⟨by rw [dpa_len d1]; exact q1.1, fun p hp => by
    exact q1.2 p vs G1 _ e1 (f1.lay hp) (f1.free hp) (fresh_back f1.ex hp) upd_same d1⟩) q)
end
end Z
namespace Z
open PySem PySem.Spec PyProof.Rows PySem.W PySem.SeqAt
open PySem.Calls
section
variable {prog : Program} {w : World} {A : Around} {E : Value → Shared → Prop} {s : Shared}
theorem call_tuple_lt {Q : Value → Shared → Prop} {l b : Addr} {items items2 : Array Value} {e r : Nat → Bool} (hl : s.heap.IsTuple l items) (hb : s.heap.IsTuple b items2)
    (he : ∀ j (h1 : j < items.size) (h2 : j < items2.size), EqAt A.in1 s items[j] items2[j] (e j)) (hr : ∀ j (h1 : j < items.size) (h2 : j < items2.size), e j = false → RcLt A.in1 s items[j] items2[j] (r j))
    (h : Q (.bool (firstLt e r (decide (items.size < items2.size)) (List.range (min items.size items2.size)))) s) : wpAny (model prog w) A (call (.builtin "tuple.__lt__") [.ref l, .ref b]) Q E s := by
  obtain ⟨⟨cls, dd, data, sl⟩, ho, hc, n, hd⟩ := id hl
  obtain ⟨⟨cls2, dd2, data2, sl2⟩, ho2, hc2, n2, hd2⟩ := id hb
  simp only at hc hd hc2 hd2
  subst hc hd hc2 hd2
  exact call_meets F.slot_tuple_lt ⟨_, ho, rfl⟩ F.entry_tuple_lt (F.args_tuple_lt_2 _ _) (PySem.SeqAt.tuple_ltAt l b items items2 n n2 dd dd2 sl sl2 e r) ⟨ho, ho2, he, hr, h⟩
/-- two tuples of alike data, whatever the kind of sort -/
theorem oneLt_tup {f : Bool} {xs ys : List PyData} {a b : Value} {as bs : List Addr} {Q : Bool → Shared → Prop} (ra : Reads s.heap a (.tuple xs) as) (rb : Reads s.heap b (.tuple ys) bs) (h : alike (.tuple xs) (.tuple ys) = true)
    (hu : A.units + min (PyData.tuple xs).depth (PyData.tuple ys).depth < cLine) (hq : Q (dataLt (.tuple xs) (.tuple ys)) s) : wpAny (model prog w) A (oneLt' f a b) Q E s := by
  cases f with
  | false => exact oneLt_alike (fun z => nomatch z) ra rb h (fun z => nomatch z) hu hq
  | true =>
    have hal : alikeAll xs ys = true := by simpa [alike] using h
    cases ra with
    | @tuple l o vs n _ as₁ h1 h2 h3 h4 =>
      cases rb with
      | @tuple l' o' vs' n' _ bs₁ k1 k2 k3 k4 =>
        have n1 : vs.size = xs.length := by simpa using ReadsAll.length _ _ _ h4
        have n2 : vs'.size = ys.length := by simpa using ReadsAll.length _ _ _ k4
        rw [dataLt_tuple, ← firstLt_toks xs ys hal, ← n1, ← n2] at hq
        rw [oneLt'_eq]
        simp only [if_true]
        refine wpAny_bind (wpAny_cRoomFor (room_here hu) ?_)
        refine wpAny_bind (wpAny_callSpecialIfBound?_slot (T := "tuple") ⟨_, h1, h2⟩ F.slot_tuple_lt (call_tuple_lt (e := pairEq xs ys) (r := fun j => dataLt (xs.getD j .none) (ys.getD j .none)) ⟨_, h1, h2, _, h3⟩ ⟨_, k1, k2, _, k3⟩ (fun j j1 j2 => ?_) (fun j j1 j2 hj => ?_) ?_))
        · have := eqAt_alikeAll xs ys A.in1 s vs.toList vs'.toList _ _ h4 k4 hal (room_in hu) j (by simpa using j1) (by simpa using j2)
          simpa using this
        · have := rcLt_alikeAll xs ys A.in1 s vs.toList vs'.toList _ _ h4 k4 hal (room_in hu) j (by simpa using j1) (by simpa using j2) hj
          simpa using this
        · exact wpAny_truthy_bool hq
/-- what the first places of some tuples are, where there may be none -/
def firstD (h : Heap) (v : Value) (o : Option Value) : Prop := ∃ a ob xs n, v = .ref a ∧ h.get? a = some ob ∧ ob.cls = .type "tuple" ∧ ob.data = .seq xs n ∧ xs[0]? = o
theorem z_firsts {M : Model} : ∀ (vs : List Value) (os : List (Option Value)) {Q : List (Option Value) → Shared → Prop}, EachIs (firstD s.heap) vs os → Q os s → wpAny M A (vs.mapM firstOfTuple') Q E s
  | [], _, Q, .nil, h => by rw [List.mapM_nil]; exact wpAny_pure h
  | v :: vs, o :: os, Q, .cons t r, h => by
    obtain ⟨a, ob, xs, n, rfl, ho, hc, hd, hf⟩ := t
    rw [List.mapM_cons]
    refine wpAny_bind ?_
    rw [kas_first_eq]
    refine wpAny_bind (Looks.here (show Looks M s.heap (typeOf (.ref a)) ob.cls from (Looks.ld ho).andThen .now) ?_)
    rw [hc, if_neg (by first | decide | simp)]
    refine wpAny_bind (listItems_at ho hd (wpAny_pure ?_))
    rw [hf]
    exact wpAny_bind (z_firsts vs os (Q := fun bs s' => wpAny M A (pure (o :: bs)) Q E s') r (wpAny_pure h))
theorem z_kind {M : Model} {vs : List Value} {os : List (Option Value)} {Q : SortKind → Shared → Prop} (t : EachIs (firstD s.heap) vs os) (h2 : 0 < vs.length) (hn : none ∈ os)
    (h : ∀ kd, kd = general' ∨ kd = oneType' → kd = (if (os.head?.bind id).isSome = true then general' else oneType') → Q kd s) :
    wpAny M A (keyKind' vs.toArray) Q E s := by
  rw [kat_kind_eq, List.mapM_toArray, map_eq_pure_bind]
  refine wpAny_bind (wpAny_bind (z_firsts vs os t (wpAny_pure ?_)))
  have hall : (os.toArray.all fun x => x.isSome) = false := by
    rw [List.all_toArray]
    cases c : os.all fun x => x.isSome with
    | false => rfl
    | true =>
      have := List.all_eq_true.mp c none hn
      simp at this
  rw [hall, if_neg Bool.false_ne_true]
  have e0 : (os.toArray[0]?.bind id) = (os.head?.bind id) := by
    rw [List.getElem?_toArray, ← List.head?_eq_getElem?]
  rw [e0]
  by_cases c : (os.head?.bind id).isSome = true
  · rw [if_pos c]
    exact wpAny_pure (h _ (.inl rfl) (by rw [if_pos c]))
  · rw [if_neg c]
    have hT : ∀ v ∈ vs, Looks M s.heap (typeOf v) (Value.type "tuple") := fun v hv => by
      obtain ⟨o, _, a, ob, xs, n, rfl, ho, hc, _, _⟩ := t.left v hv
      exact hc ▸ (Looks.ld ho).andThen .now
    rw [oneTypeOnly'_eq, List.mapM_toArray, map_eq_pure_bind]
    refine wpAny_bind (wpAny_bind (wpAny_bind (kas_mapM (r := Value.type "tuple") _ (fun v hv Q' hq => (hT v hv).here hq) (wpAny_pure ?_))))
    obtain ⟨v1, vr, rfl⟩ : ∃ v1 vr, vs = v1 :: vr := by
      match vs, h2 with
      | v1 :: vr, _ => exact ⟨v1, vr, rfl⟩
    have hall2 : ((List.map (fun _ => Value.type "tuple") (v1 :: vr)).toArray.all fun x => x == Value.type "tuple") = true := by
      simp only [List.all_toArray, List.all_map, List.all_eq_true]
      intro _ _
      exact beq_self_eq_true _
    have h0 : (List.map (fun _ => Value.type "tuple") (v1 :: vr)).toArray[0]? = some (Value.type "tuple") := by simp
    rw [h0]
    simp only [hall2, if_true]
    exact wpAny_pure (wpAny_pure (h _ (.inr rfl) (by rw [if_neg c]; rfl)))
theorem each_first {h : Heap} : ∀ {vs : List Value} {ds : List PyData}, EachIs (fun v d => ∃ as, Reads h v d as) vs ds → (∀ d, d ∈ ds → ∃ xs, d = .tuple xs) → ∃ os, EachIs (firstD h) vs os ∧ (PyData.tuple [] ∈ ds → none ∈ os)
  | _, _, .nil, _ => ⟨[], .nil, fun z => absurd z (by simp)⟩
  | _, _, .cons (b := d) ⟨as, r⟩ t, ht => by
    obtain ⟨os, h1, h2⟩ := each_first t fun d hd => ht d (List.mem_cons_of_mem _ hd)
    obtain ⟨xs, rfl⟩ := ht d (List.mem_cons_self ..)
    cases r with
    | @tuple a o vs n _ _ ho hc hd hr =>
      refine ⟨vs[0]? :: os, .cons ⟨a, o, vs, n, rfl, ho, hc, hd, rfl⟩ h1, fun z => ?_⟩
      rcases List.mem_cons.mp z with e | e
      · have e2 : xs = [] := by injection e with e; exact e.symm
        have hl := SeqAt.ReadsAll.length _ _ _ hr
        rw [e2] at hl
        have : vs[0]? = none := by
          rw [Array.getElem?_eq_none_iff]
          simp at hl; simp [hl]
        rw [this]; exact List.mem_cons_self ..
      · exact List.mem_cons_of_mem _ (h2 e)
/-- tuples of alike data, perhaps empty ones -/
theorem SortsAt.tups {vs : List Value} {ds : List PyData} (e : EachIs (fun v d => ∃ as, Reads s.heap v d as) vs ds) (hal : AllAlike ds) (ht : ∀ d, d ∈ ds → ∃ xs, d = .tuple xs) (hu : ∀ d, d ∈ ds → A.units + d.depth < cLine) : SortsAt prog w A s (dataKind s.heap ds) vs := by
  by_cases hn : PyData.tuple [] ∈ ds
  · obtain ⟨os, h1, h2⟩ := each_first e ht
    have lt : ∀ f : Bool, H.LtAt prog w A s (dataKind s.heap ds) (if f = true then oneType' else general') := by
      intro f E x y a b Q ha hb hq
      obtain ⟨d, as, hd, ra, rfl⟩ := dataKind_inv ha
      obtain ⟨d', as', hd', rb, rfl⟩ := dataKind_inv hb
      have hdd := hal d hd d' hd'
      obtain ⟨xs, rfl⟩ := ht d hd
      obtain ⟨ys, rfl⟩ := ht d' hd'
      have room := Nat.lt_of_le_of_lt (Nat.add_le_add_left (Nat.min_le_left (PyData.tuple xs).depth (PyData.tuple ys).depth) A.units) (hu _ hd)
      cases f with
      | true => exact (keyLt'_oneType x y).symm ▸ oneLt_tup (f := true) ra rb hdd room hq
      | false => exact (show keyLt' general' x y = oneLt' false x y from rfl).symm ▸ oneLt_tup (f := false) ra rb hdd room hq
    refine ⟨fun v hv => ?_, if (os.head?.bind id).isSome = true then general' else oneType', ?_, fun h2' E Q hq => z_kind h1 (by omega) (h2 hn) fun kd _ ek => ek ▸ hq⟩
    · obtain ⟨d, hd, as, r⟩ := e.left v hv
      exact ⟨_, dataKind_some hal hd r⟩
    · by_cases c : (os.head?.bind id).isSome = true
      · rw [if_pos c]; exact lt false
      · rw [if_neg c]; exact lt true
  · exact SortsAt.data e hal (.inl fun d hd => by
      obtain ⟨xs, rfl⟩ := ht d hd
      cases xs with
      | nil => exact absurd hd hn
      | cons x r => exact ⟨x, r, rfl⟩) hu
/-- what can be sorted: tuples of alike data; or alike data that are neither tuples nor None -/
def sortable (ds : List PyData) : Prop := AllAlike ds ∧ (∀ d, d ∈ ds → d.depth ≤ 60) ∧ ((∀ d, d ∈ ds → ∃ xs, d = .tuple xs) ∨ ∀ d, d ∈ ds → d ≠ .none ∧ ∀ xs, d ≠ .tuple xs)
theorem SortsAt.any {vs : List Value} {ds : List PyData} (e : EachIs (fun v d => ∃ as, Reads s.heap v d as) vs ds) (h : sortable ds) (hu : A.units + 60 < cLine) : SortsAt prog w A s (dataKind s.heap ds) vs := by
  have hu' : ∀ d, d ∈ ds → A.units + d.depth < cLine := fun d hd => Nat.lt_of_le_of_lt (Nat.add_le_add_left (h.2.1 d hd) _) hu
  rcases h.2.2 with ht | ht
  · exact SortsAt.tups e h.1 ht hu'
  · exact SortsAt.data e h.1 (.inr ht) hu'
def sortD (ds : List PyData) : List PyData := ds.mergeSort (dataLe false id)
/-- sorted(v): v gives the values vs -/
theorem sorted_any {v : Value} {ds : List PyData} {R : Value → PyData → Prop} {Q : Value → Shared → Prop}
    (hc : ∀ (E' : Value → Shared → Prop) (Q' : List Value → Shared → Prop), (∀ vs h' tk, (∀ b o, s.heap.get? b = some o → h'.get? b = some o) → PySem.W.EachIs R vs ds → PySem.W.EachIs (fun v d => ∃ as, Reads s.heap v d as) vs ds → Q' vs { s with heap := h', toks := tk }) → wpAny (model prog w) A.in1 (collect v) Q' E' s)
    (hs : sortable ds) (hL : ds.length ≤ sizeLine) (hu : A.units + 62 < cLine)
    (h : ∀ (h1 : Heap) (p : Addr) (h' : Heap) (tk : Nat) (out : List Value) (n : Nat), (∀ b o, s.heap.get? b = some o → h1.get? b = some o) → h1.objs.size ≤ p → (∀ b o, h1.get? b = some o → h'.get? b = some o) → h'.get? p = some (seqObj "list" out.toArray n) → out.length = ds.length → EachIs R out (sortD ds) → Q (.ref p) { s with heap := h', toks := tk }) :
    wpAny (model prog w) A (call (.builtin "sorted") [v]) Q E s := by
  refine call_function_entry_kw kind_sorted plain_sorted entry_sorted (args_sorted1 _) ?_
  unfold Builtin.«sorted»
  refine wpAny_bind (m := checkCount "sorted" 1 1 _) (wpAny_pure ?_)
  refine wpAny_bind (hc _ _ fun vs h1 tk k1 e er => ?_)
  have hlen : vs.length = ds.length := e.length
  refine wpAny_bind (wpAny_newList ?_ (by rw [hlen]; exact hL))
  have ho : (h1.push (seqObj "list" vs.toArray 0)).get? h1.objs.size = some (seqObj "list" vs.toArray 0) := Heap.get?_push_size _ rfl
  have er2 : EachIs (fun v d => ∃ as, Reads (sortingHeap (h1.push (seqObj "list" vs.toArray 0)) h1.objs.size vs) v d as) vs ds :=
    er.mono fun _ _ ⟨as, r⟩ => ⟨as, PyProof.Rows.Reads.keeps (fun b o q => sortingHeap_old (Nat.ne_of_lt (Heap.lt_size (k1 b o q))) (Heap.get?_push_of_some _ (k1 b o q))) r⟩
  show wpAny _ _ _ _ _ { s with heap := h1.push (seqObj "list" vs.toArray 0), toks := tk }
  refine wpAny_bind (wpAny_holding (wpAny_call_entry_kw slot_list_sort ⟨_, ho, rfl⟩ entry_list_sort ?body (args_list_sort _)))
  case body =>
    show wpAny (model prog w) A.in1.in1 (Builtin.«list.sort» ⟨[.ref h1.objs.size], []⟩) _ _ _
    refine list_sort_vals (κ := dataKind (sortingHeap (h1.push (seqObj "list" vs.toArray 0)) h1.objs.size vs) ds) (s := { s with heap := h1.push (seqObj "list" vs.toArray 0), toks := tk }) ho
      (SortsAt.any (s := { s with heap := sortingHeap (h1.push (seqObj "list" vs.toArray 0)) h1.objs.size vs, toks := tk }) er2 hs (by
        have : A.in1.in1.units = A.units + 2 := rfl
        omega)) (by rw [hlen]; exact hL) ?_
    obtain ⟨ep, he'⟩ := PyProof.Rows.sortedHeap_at (vs := vs) (out := (sortVals (dataKind (sortingHeap (h1.push (seqObj "list" vs.toArray 0)) h1.objs.size vs) ds) false vs vs).toArray) ho
    refine ⟨_, rfl, wpAny_pure ⟨_, rfl, h h1 h1.objs.size _ tk _ ep k1 (Nat.le_refl _) (fun b o q => ?_) he' (by rw [sortVals_length false rfl]; exact hlen) ?_⟩⟩
    · have hb : b < h1.objs.size := Heap.lt_size q
      rw [PyProof.Rows.sortedHeap_old (Nat.ne_of_lt hb) (by rw [size_push']; exact Nat.lt_succ_of_lt hb)]
      exact Heap.get?_push_of_some _ q
    · have em : ds.map id = ds := List.map_id _
      have q := sortVals_data (enc := id) (h' := sortingHeap (h1.push (seqObj "list" vs.toArray 0)) h1.objs.size vs) false e er2 (by rw [em]; exact hs.1)
      rw [em] at q
      exact q
end
end Z
namespace Z
variable [PoC]
open PySem PySem.Spec PyProof.Rows L2
open Evl (Ex fresh_back)

/-! ### operators -/
section
variable {X : Cx}
def CM (i j : Int) : Prop := CMul i j ∨ i.natAbs.log2 + j.natAbs.log2 < 1000000
theorem CM.ok {i j : Int} (h : CM i j) : IntMulOk i j := by
  rcases h with h | h
  · exact h.ok
  · exact CMulW.ok h
theorem op_mulZ : OpR X (binaryOp .Mult) (rI CM fun i j => .int (i * j)) := opI fun _ _ _ _ _ _ _ hc q => mul_int q hc.ok
def rCatL (K : PySem.W.Frag) : R2 := fun x y H Q => ∃ l b xs zs, x = .ref l ∧ y = .ref b ∧ SqL K H l xs ∧ SqL K H b zs ∧ xs.length + zs.length ≤ sizeLine ∧ ∀ p, H p = none → Q (.ref p) (upd H p (.lst (xs ++ zs)))
theorem op_catL : OpR X (binaryOp .Add) (rCatL X.K) := by
  intro pins s σ H x y v u Q I rx ry h
  obtain ⟨l, b, xs, zs, rfl, rfl, hH, hB, hz, q⟩ := h
  cases rx
  cases ry
  obtain ⟨its, r, hl, _⟩ := I.list hH
  obtain ⟨its2, r2, hl2, _⟩ := I.list hB
  obtain ⟨⟨cls, dd, data, sl⟩, ho, hc, n, hd⟩ := id hl.isList
  obtain ⟨⟨cls2, dd2, data2, sl2⟩, ho2, hc2, n2, hd2⟩ := id hl2.isList
  simp only at hc hd hc2 hd2
  subst hc hd hc2 hd2
  have e : its.toArray ++ its2.toArray = (its ++ its2).toArray := by simp
  refine concat_meets ⟨_, ho, rfl⟩ ⟨_, ho2, rfl⟩ noFill_list_add seq_list_add PySem.F.slot_list_add PySem.F.entry_list_add (PySem.F.args_list_add_2 _ _) (list_addW l b its.toArray its2.toArray n n2 dd dd2 sl sl2 (by simp [← r.length, ← r2.length]; exact hz)) ⟨ho, ho2, ?_⟩
  rw [e]
  exact ⟨.ref _, _, I.lnew (t' := s.toks) (r.append r2) (by rw [List.length_append]; omega), rfl, q _ I.fresh⟩
def rAddS : R2 := fun x y H Q => ∃ i j, x = .str i ∧ y = .str j ∧ i.length + j.length ≤ sizeLine ∧ Q (.str (i ++ j)) H
def rAddZ (K : PySem.W.Frag) : R2 := fun x y H Q => rI0 (fun i j => .int (i + j)) x y H Q ∨ rAddS x y H Q ∨ rCatA K x y H Q ∨ rCatL K x y H Q
theorem op_addZ : OpR X (binaryOp .Add) (rAddZ X.K) := op_add.or (op_add_str.or (op_catA.or op_catL))
end
def fAdd : PyData → PyData → W PyData
  | .int a, .int b => pure (.int (a + b))
  | .str a, .str b => do W.need (a.length + b.length ≤ sizeLine); pure (.str (a ++ b))
  | .tuple a, .tuple b => do W.need (a.length + b.length ≤ sizeLine); pure (.tuple (a ++ b))
  | .list a, .list b => do W.need (a.length + b.length ≤ sizeLine); pure (.list (a ++ b))
  | _, _ => W.fail
section
variable {K : PySem.W.Frag}
theorem dp_int {G : Hp} {v : V} {i : Int} (h : Dp K G v (.int i)) : v = .int i := by cases h; rfl
theorem dp_str {G : Hp} {v : V} {i : Str} (h : Dp K G v (.str i)) : v = .str i := by cases h; rfl
theorem dp_bl {G : Hp} {v : V} {i : Bool} (h : Dp K G v (.bool i)) : v = .bl i := by cases h; rfl
theorem dp_non {G : Hp} {v : V} (h : Dp K G v .none) : v = .non := by cases h; rfl
theorem dp_tup {G : Hp} {v : V} {ds : List PyData} (h : Dp K G v (.tuple ds)) : ∃ a vs, v = .ref a ∧ SqT K0 G a vs ∧ DpAll K G vs ds := by cases h with | tup a b => exact ⟨_, _, rfl, a, b⟩
theorem dp_lst {G : Hp} {v : V} {ds : List PyData} (h : Dp K G v (.list ds)) : ∃ a vs, v = .ref a ∧ SqL K0 G a vs ∧ DpAll K G vs ds := by cases h with | lst a b => exact ⟨_, _, rfl, a, b⟩
theorem dpa_nil {G : Hp} {vs : List V} {ds : List PyData} (h : DpAll K G vs ds) : vs = [] ↔ ds = [] := by cases h <;> simp
theorem oj_add : OJ K (rAddZ K) fAdd := by
  intro G H x y dx dy ex hx hy Q q
  cases dx with
  | int a =>
    cases dy with
    | int b => cases hx; cases hy; exact .inl ⟨a, b, rfl, rfl, q _ G H .same (.int _)⟩
    | _ => exact q.elim
  | str a =>
    cases dy with
    | str b => cases hx; cases hy; exact .inr (.inl ⟨a, b, rfl, rfl, q.1, q.2 _ G H .same (.str _)⟩)
    | _ => exact q.elim
  | tuple a =>
    cases dy with
    | tuple b =>
      obtain ⟨p, vs, rfl, h1, h2⟩ := dp_tup hx
      obtain ⟨p', vs', rfl, h1', h2'⟩ := dp_tup hy
      refine .inr (.inr (.inl ⟨p, p', vs, vs', rfl, rfl, ex_t ex h1, ex_t ex h1', by rw [dpa_len h2, dpa_len h2']; exact q.1, fun e => ?_, fun e e' => ?_, fun e e' t ht => ?_⟩))
      · have : a = [] := (dpa_nil h2).mp e
        subst this
        exact q.2 _ G H .same (.tup h1' h2')
      · have : b = [] := (dpa_nil h2').mp e'
        subst this
        exact q.2 _ G H .same (.tup h1 (by rw [List.append_nil]; exact h2))
      · exact q.2 _ _ _ (.new ht) (.tup (Or.inl (Or.inl upd_same)) (dpa_ex (Ex.new (fresh_back ex ht)) (dpa_app h2 h2')))
    | _ => exact q.elim
  | list a =>
    cases dy with
    | list b =>
      obtain ⟨p, vs, rfl, h1, h2⟩ := dp_lst hx
      obtain ⟨p', vs', rfl, h1', h2'⟩ := dp_lst hy
      refine .inr (.inr (.inr ⟨p, p', vs, vs', rfl, rfl, ex_l ex h1, ex_l ex h1', by rw [dpa_len h2, dpa_len h2']; exact q.1, fun t ht => ?_⟩))
      exact q.2 _ _ _ (.new ht) (.lst (Or.inl (Or.inl upd_same)) (dpa_ex (Ex.new (fresh_back ex ht)) (dpa_app h2 h2')))
    | _ => exact q.elim
  | _ => exact q.elim
/-- two ints in -/
def fI (C : Int → Int → Prop) (g : Int → Int → PyData) : PyData → PyData → W PyData
  | .int a, .int b => do W.need (C a b); pure (g a b)
  | _, _ => W.fail
theorem oj_I {C : Int → Int → Prop} {g : Int → Int → V} {g' : Int → Int → PyData} (hg : ∀ G i j, Dp K G (g i j) (g' i j)) : OJ K (rI C g) (fI C g') := by
  intro G H x y dx dy ex hx hy Q q
  cases dx with
  | int a =>
    cases dy with
    | int b => cases hx; cases hy; exact ⟨a, b, rfl, rfl, q.1, q.2 _ G H .same (hg ..)⟩
    | _ => exact q.elim
  | _ => exact q.elim
def fI0 (g : Int → Int → PyData) : PyData → PyData → W PyData
  | .int a, .int b => pure (g a b)
  | _, _ => W.fail
theorem oj_I0 {g : Int → Int → V} {g' : Int → Int → PyData} (hg : ∀ G i j, Dp K G (g i j) (g' i j)) : OJ K (rI0 g) (fI0 g') := by
  intro G H x y dx dy ex hx hy Q q
  cases dx with
  | int a =>
    cases dy with
    | int b => cases hx; cases hy; exact ⟨a, b, rfl, rfl, q _ G H .same (hg ..)⟩
    | _ => exact q.elim
  | _ => exact q.elim
abbrev fSub := fI0 fun i j => .int (i - j)
abbrev fMul := fI CM fun i j => .int (i * j)
abbrev fDiv := fI CDivW fun i j => .int (i / j)
abbrev fMod := fI (fun _ j => 0 < j) fun i j => .int (i % j)
abbrev fPow := fI CPow fun i j => .int (i ^ j.toNat)
abbrev fShl := fI CPow fun i j => .int (i * 2 ^ j.toNat)
abbrev fShr := fI (fun _ j => 0 ≤ j) fun i j => .int (i / 2 ^ j.toNat)
abbrev fAnd := fI0 fun i j => .int (Builtin.bitAnd i j)
abbrev fOr := fI0 fun i j => .int (Builtin.bitOr i j)
abbrev fLe := fI0 fun i j => .bool (decide (i ≤ j))
abbrev fGe := fI0 fun i j => .bool (decide (j ≤ i))
theorem oj_sub : OJ K (rI0 fun i j => .int (i - j)) fSub := oj_I0 fun _ _ _ => .int _
theorem oj_mul : OJ K (rI CM fun i j => .int (i * j)) fMul := oj_I fun _ _ _ => .int _
theorem oj_div : OJ K (rI CDivW fun i j => .int (i / j)) fDiv := oj_I fun _ _ _ => .int _
theorem oj_mod : OJ K (rI (fun _ j => 0 < j) fun i j => .int (i % j)) fMod := oj_I fun _ _ _ => .int _
theorem oj_pow : OJ K (rI CPow fun i j => .int (i ^ j.toNat)) fPow := oj_I fun _ _ _ => .int _
theorem oj_shl : OJ K (rI CPow fun i j => .int (i * 2 ^ j.toNat)) fShl := oj_I fun _ _ _ => .int _
theorem oj_shr : OJ K (rI (fun _ j => 0 ≤ j) fun i j => .int (i / 2 ^ j.toNat)) fShr := oj_I fun _ _ _ => .int _
theorem oj_and : OJ K (rI0 fun i j => .int (Builtin.bitAnd i j)) fAnd := oj_I0 fun _ _ _ => .int _
theorem oj_or : OJ K (rI0 fun i j => .int (Builtin.bitOr i j)) fOr := oj_I0 fun _ _ _ => .int _
theorem oj_le : OJ K (rI0 fun i j => .bl (decide (i ≤ j))) fLe := oj_I0 fun _ _ _ => .bl _
theorem oj_ge : OJ K (rI0 fun i j => .bl (decide (j ≤ i))) fGe := oj_I0 fun _ _ _ => .bl _
def plOk (d : PyData) : Bool := d.plain && decide (d.depth ≤ 64)
theorem plOk.pl {d : PyData} (h : plOk d = true) : d.plain = true := (Bool.and_eq_true_iff.mp h).1
theorem plOk.dp {d : PyData} (h : plOk d = true) : d.depth ≤ 64 := of_decide_eq_true (Bool.and_eq_true_iff.mp h).2
def rEqZ (K : PySem.W.Frag) (neg : Bool) : R2 := fun x y H Q => ∃ d e, Dp K H x d ∧ Dp K H y e ∧ plOk d = true ∧ plOk e = true ∧ Q (.bl (if neg then !PyData.eqv d e else PyData.eqv d e)) H
theorem room_pl {A : Around} {m : Nat} {d : PyData} (h : plOk d = true) (hu : A.units + 65 < cLine) : A.units + 1 + min m d.depth < cLine := by
  have h1 := plOk.dp h
  have h2 : min m d.depth ≤ d.depth := Nat.min_le_right _ _
  omega
theorem room_pl2 {A : Around} {m : Nat} {d : PyData} (h : plOk d = true) (hu : A.units + 64 < cLine) : A.units + min d.depth m < cLine := by
  have h1 := plOk.dp h
  have h2 : min d.depth m ≤ d.depth := Nat.min_le_left _ _
  omega
theorem op_eqZ {X : Cx} (hu : X.A.units + 64 < cLine) : OpR X (compareOp .Eq) (rEqZ X.K false) := by
  intro pins s σ H x y v u Q I rx ry h
  obtain ⟨d, e, hd, he, sd, se, q⟩ := h
  obtain ⟨as, r1⟩ := Dp.reads I d x v (dp0 hd) rx
  obtain ⟨bs, r2⟩ := Dp.reads I e y u (dp0 he) ry
  exact PySem.SeqAt.eq_plain r1 r2 (plOk.pl sd) (plOk.pl se) (room_pl2 sd hu) ⟨.bl _, H, I, rfl, q⟩
theorem op_neZ {X : Cx} (hu : X.A.units + 64 < cLine) : OpR X (compareOp .NotEq) (rEqZ X.K true) := by
  intro pins s σ H x y v u Q I rx ry h
  obtain ⟨d, e, hd, he, sd, se, q⟩ := h
  obtain ⟨as, r1⟩ := Dp.reads I d x v (dp0 hd) rx
  obtain ⟨bs, r2⟩ := Dp.reads I e y u (dp0 he) ry
  exact PySem.SeqAt.ne_plain r1 r2 (plOk.pl sd) (plOk.pl se) (room_pl2 sd hu) ⟨.bl _, H, I, rfl, q⟩
def fEq (a b : PyData) : W PyData := do W.need (plOk a = true ∧ plOk b = true); pure (.bool (PyData.eqv a b))
def fNe (a b : PyData) : W PyData := do W.need (plOk a = true ∧ plOk b = true); pure (.bool (!PyData.eqv a b))
theorem oj_eq : OJ K (rEqZ K false) fEq := fun G H x y dx dy ex hx hy Q q => ⟨dx, dy, dp_ex ex hx, dp_ex ex hy, q.1.1, q.1.2, q.2 _ G H .same (.bl _)⟩
theorem oj_ne : OJ K (rEqZ K true) fNe := fun G H x y dx dy ex hx hy Q q => ⟨dx, dy, dp_ex ex hx, dp_ex ex hy, q.1.1, q.1.2, q.2 _ G H .same (.bl _)⟩
def isNone : PyData → Bool
  | .none => true
  | _ => false
theorem dp_isN {G : Hp} {v : V} {d : PyData} (h : Dp K G v d) : decide (v = .non) = isNone d := by cases h <;> rfl
def fIsN (a b : PyData) : W PyData := match b with
  | .none => pure (.bool (isNone a))
  | _ => W.fail
def fNotN (a b : PyData) : W PyData := match b with
  | .none => pure (.bool (!isNone a))
  | _ => W.fail
theorem oj_isN : OJ K (fun x y H Q => y = .non ∧ Q (.bl (decide (x = .non))) H) fIsN := by
  intro G H x y dx dy ex hx hy Q q
  cases dy with
  | none => cases hy; rw [dp_isN hx]; exact ⟨rfl, q _ G H .same (.bl _)⟩
  | _ => exact q.elim
theorem oj_notN : OJ K (fun x y H Q => y = .non ∧ Q (.bl (!decide (x = .non))) H) fNotN := by
  intro G H x y dx dy ex hx hy Q q
  cases dy with
  | none => cases hy; rw [dp_isN hx]; exact ⟨rfl, q _ G H .same (.bl _)⟩
  | _ => exact q.elim
end
/-! ### order -/
def fLt (a b : PyData) : W PyData := do W.need (PySem.W.alike a b = true ∧ a ≠ .none ∧ a.depth ≤ 60); pure (.bool (PySem.W.dataLt a b))
def rLtZ (K : PySem.W.Frag) : R2 := fun x y H Q => ∃ d e, Dp K H x d ∧ Dp K H y e ∧ PySem.W.alike d e = true ∧ d ≠ .none ∧ d.depth ≤ 60 ∧ Q (.bl (PySem.W.dataLt d e)) H
theorem op_ltZ {X : Cx} (hu : X.A.units + 64 < cLine) : OpR X (compareOp .Lt) (rLtZ X.K) := by
  intro pins s σ H x y v u Q I rx ry h
  obtain ⟨d, e, hd, he, ha, hn, hz, q⟩ := h
  obtain ⟨as, r1⟩ := Dp.reads I d x v (dp0 hd) rx
  obtain ⟨bs, r2⟩ := Dp.reads I e y u (dp0 he) ry
  exact PySem.W.rcLt_alike d e X.A s v u as bs r1 r2 ha hn (by have := Nat.min_le_left d.depth e.depth; omega) X.prog X.w X.xe _ ⟨.bl _, H, I, rfl, q⟩
theorem oj_lt {K : PySem.W.Frag} : OJ K (rLtZ K) fLt := fun G H x y dx dy ex hx hy Q q => ⟨dx, dy, dp_ex ex hx, dp_ex ex hy, q.1.1, q.1.2.1, q.1.2.2, q.2 _ G H .same (.bl _)⟩
def fGt : PyData → PyData → W PyData
  | .int a, .int b => pure (.bool (decide (b < a)))
  | .str a, .str b => pure (.bool (decide (b.cps.toList < a.cps.toList)))
  | _, _ => W.fail
def rGtZ : R2 := fun x y H Q => rI0 (fun i j => .bl (decide (j < i))) x y H Q ∨ ∃ i j, x = .str i ∧ y = .str j ∧ Q (.bl (decide (j.cps.toList < i.cps.toList))) H
theorem op_gtZ {X : Cx} : OpR X (compareOp .Gt) rGtZ := op_gt.or op_gt_str
theorem oj_gt {K : PySem.W.Frag} : OJ K rGtZ fGt := by
  intro G H x y dx dy ex hx hy Q q
  cases dx with
  | int a =>
    cases dy with
    | int b => cases hx; cases hy; exact .inl ⟨a, b, rfl, rfl, q _ G H .same (.bl _)⟩
    | _ => exact q.elim
  | str a =>
    cases dy with
    | str b => cases hx; cases hy; exact .inr ⟨a, b, rfl, rfl, q _ G H .same (.bl _)⟩
    | _ => exact q.elim
  | _ => exact q.elim
/-! ### in -/
def inD (a : PyData) (ds : List PyData) : Bool := ds.any fun z => PyData.eqv z a
def sign1 (z : Str) : Option Nat := match z.cps.toList with
  | [c] => some c
  | _ => none
theorem sign1_eq {z : Str} {c : Nat} (h : sign1 z = some c) : z = ⟨#[c]⟩ := by
  unfold sign1 at h
  split at h
  · rename_i d e
    cases h
    cases z with | mk cps => cases cps with | mk l => simp at e; subst e; rfl
  · cases h
def fIn' (neg : Bool) (a b : PyData) : W PyData := match b with
  | .list ds => do W.need (plOk a = true ∧ plOk (.list ds) = true); pure (.bool (if neg then !inD a ds else inD a ds))
  | .tuple ds => do W.need (plOk a = true ∧ plOk (.tuple ds) = true); pure (.bool (if neg then !inD a ds else inD a ds))
  | .str z => match a with
    | .str t => match sign1 t with
      | some c => pure (.bool (if neg then !decide (c ∈ z.cps.toList) else decide (c ∈ z.cps.toList)))
      | none => W.fail
    | _ => W.fail
  | _ => W.fail
abbrev fIn := fIn' false
abbrev fNotIn := fIn' true
def rInZ (K : PySem.W.Frag) (neg : Bool) : R2 := fun x y H Q =>
  (∃ d ds, Dp K H x d ∧ (Dp K H y (.list ds) ∧ plOk (.list ds) = true ∨ Dp K H y (.tuple ds) ∧ plOk (.tuple ds) = true) ∧ plOk d = true ∧ Q (.bl (if neg then !inD d ds else inD d ds)) H) ∨
  ∃ (c : Nat) (z : Str), x = .str ⟨#[c]⟩ ∧ y = .str z ∧ Q (.bl (if neg then !decide (c ∈ z.cps.toList) else decide (c ∈ z.cps.toList))) H
theorem plAll {ds : List PyData} (h : plOk (.list ds) = true) : PyData.plainAll ds = true := by have := plOk.pl h; simpa only [PyData.plain] using this
theorem plAllT {ds : List PyData} (h : plOk (.tuple ds) = true) : PyData.plainAll ds = true := by have := plOk.pl h; simpa only [PyData.plain] using this
theorem op_inZ {X : Cx} (hu : X.A.units + 65 < cLine) : OpR X (compareOp .In) (rInZ X.K false) := by
  intro pins s σ H x y v u Q I rx ry h
  rcases h with ⟨d, ds, hd, he, sd, q⟩ | h
  · obtain ⟨as, r1⟩ := Dp.reads I d x v (dp0 hd) rx
    rcases he with ⟨he, se⟩ | ⟨he, se⟩
    · obtain ⟨bs, r2⟩ := Dp.reads I (.list ds) y u (dp0 he) ry
      exact PySem.SeqAt.in_list_data r2 r1 (plAll se) (plOk.pl sd) (room_pl sd hu) ⟨.bl _, H, I, rfl, q⟩
    · obtain ⟨bs, r2⟩ := Dp.reads I (.tuple ds) y u (dp0 he) ry
      exact PySem.SeqAt.in_tuple_data r2 r1 (plAllT se) (plOk.pl sd) (room_pl sd hu) ⟨.bl _, H, I, rfl, q⟩
  · exact op_in_sign pins s σ H x y v u Q I rx ry h
theorem op_notInZ {X : Cx} (hu : X.A.units + 65 < cLine) : OpR X (compareOp .NotIn) (rInZ X.K true) := by
  intro pins s σ H x y v u Q I rx ry h
  rcases h with ⟨d, ds, hd, he, sd, q⟩ | h
  · obtain ⟨as, r1⟩ := Dp.reads I d x v (dp0 hd) rx
    rcases he with ⟨he, se⟩ | ⟨he, se⟩
    · obtain ⟨bs, r2⟩ := Dp.reads I (.list ds) y u (dp0 he) ry
      exact PySem.SeqAt.notIn_list_data r2 r1 (plAll se) (plOk.pl sd) (room_pl sd hu) ⟨.bl _, H, I, rfl, q⟩
    · obtain ⟨bs, r2⟩ := Dp.reads I (.tuple ds) y u (dp0 he) ry
      exact PySem.SeqAt.notIn_tuple_data r2 r1 (plAllT se) (plOk.pl sd) (room_pl sd hu) ⟨.bl _, H, I, rfl, q⟩
  · exact op_notIn_sign pins s σ H x y v u Q I rx ry h
theorem oj_in' {K : PySem.W.Frag} {neg : Bool} : OJ K (rInZ K neg) (fIn' neg) := by
  intro G H x y dx dy ex hx hy Q q
  cases dy with
  | list ds => exact .inl ⟨dx, ds, dp_ex ex hx, .inl ⟨dp_ex ex hy, q.1.2⟩, q.1.1, q.2 _ G H .same (.bl _)⟩
  | tuple ds => exact .inl ⟨dx, ds, dp_ex ex hx, .inr ⟨dp_ex ex hy, q.1.2⟩, q.1.1, q.2 _ G H .same (.bl _)⟩
  | str z =>
    cases dx with
    | str t =>
      simp only [fIn'] at q
      cases e : sign1 t with
      | none => rw [e] at q; exact q.elim
      | some c =>
        rw [e] at q
        cases hx; cases hy
        exact .inr ⟨c, z, by rw [sign1_eq e], rfl, q _ G H .same (.bl _)⟩
    | _ => exact q.elim
  | _ => exact q.elim
theorem oj_in {K : PySem.W.Frag} : OJ K (rInZ K false) fIn := oj_in'
theorem oj_notIn {K : PySem.W.Frag} : OJ K (rInZ K true) fNotIn := oj_in'
/-! ### items, slices -/
def fIx : PyData → PyData → W PyData
  | .list ds, .int i => match atI ds i with
    | some d => pure d
    | none => W.fail
  | .tuple ds, .int i => match atI ds i with
    | some d => pure d
    | none => W.fail
  | .str z, .int i => match atI z.cps.toList i with
    | some c => do W.need (z.length ≤ sizeLine); pure (.str ⟨#[c]⟩)
    | none => W.fail
  | _, _ => W.fail
theorem atI_dpa {K : PySem.W.Frag} {G : Hp} {vs : List V} {ds : List PyData} {i : Int} {d : PyData} (h : DpAll K G vs ds) (e : atI ds i = some d) : ∃ v, atI vs i = some v ∧ Dp K G v d := by
  unfold atI at e ⊢
  rw [dpa_len h]
  cases c : ixN ds.length i with
  | none => rw [c] at e; cases e
  | some j => rw [c] at e; exact dpa_get h e
theorem oj_ix {K : PySem.W.Frag} : OJ K (rIx K) fIx := by
  intro G H x y dx dy ex hx hy Q q
  cases dx with
  | list ds =>
    cases dy with
    | int i =>
      simp only [fIx] at q
      cases e : atI ds i with
      | none => rw [e] at q; exact q.elim
      | some d =>
        rw [e] at q
        obtain ⟨a, vs, rfl, h1, h2⟩ := dp_lst hx
        cases hy
        obtain ⟨v, e1, e2⟩ := atI_dpa h2 e
        exact .inl ⟨a, vs, i, v, rfl, rfl, ex_l ex h1, e1, q _ G H .same e2⟩
    | _ => exact q.elim
  | tuple ds =>
    cases dy with
    | int i =>
      simp only [fIx] at q
      cases e : atI ds i with
      | none => rw [e] at q; exact q.elim
      | some d =>
        rw [e] at q
        obtain ⟨a, vs, rfl, h1, h2⟩ := dp_tup hx
        cases hy
        obtain ⟨v, e1, e2⟩ := atI_dpa h2 e
        exact .inr (.inl ⟨a, vs, i, v, rfl, rfl, ex_t ex h1, e1, q _ G H .same e2⟩)
    | _ => exact q.elim
  | str z =>
    cases dy with
    | int i =>
      simp only [fIx] at q
      cases e : atI z.cps.toList i with
      | none => rw [e] at q; exact q.elim
      | some c =>
        rw [e] at q
        cases hx; cases hy
        exact .inr (.inr ⟨z, i, c, rfl, rfl, q.1, e, q.2 _ G H .same (.str _)⟩)
    | _ => exact q.elim
  | _ => exact q.elim
/-- a slice's part -/
def TJO (K : PySem.W.Frag) (to : TO) (m : Env → W (Option Int)) : Prop :=
  ∀ (B : Ba) (G : Hp) (env : Env) (σ : L2.St) (H : Hp), ROk K B G env σ H → ∀ Q : Option Int → Hp → Prop, ((m env).run fun b => ∀ G' H', Ex G G' → Fra B G' H' → Q b H') → to σ H Q
def mNoPart : Env → W (Option Int) := fun _ => pure none
def mPart (m : Env → W PyData) : Env → W (Option Int) := fun env => do
  match ← m env with
  | .int i => pure (some i)
  | _ => W.fail
theorem tjo_none {K : PySem.W.Frag} : TJO K tNoPart mNoPart := fun B G env σ H ok Q q => q G H (Ex.refl _) ok.fra
theorem tjo_some {K : PySem.W.Frag} {te : TE} {m : Env → W PyData} (h : TJ K te m) : TJO K (tPart te) (mPart m) := fun B G env σ H ok Q q =>
  h B G env σ H ok _ ((m env).mono (fun d q1 v G1 H1 e1 f1 d1 => by
    cases d with
    | int i => cases d1; exact ⟨i, rfl, q1 G1 H1 e1 f1⟩
    | _ => exact q1.elim) q)
def rSlZ (K : PySem.W.Frag) : V → Option Int → Option Int → Hp → VK → Prop := fun x lo hi H Q => rSlA K x lo hi H Q ∨ rSlL K x lo hi H Q ∨ rSlS x lo hi H Q
theorem sl_z {X : Cx} : SlR X (rSlZ X.K) := sl_tupA.or (sl_list.or sl_str)
def cutL {a : Type} (xs : List a) (lo hi : Option Int) : List a := (xs.drop (HT.sIx xs.length 0 lo)).take (HT.sIx xs.length xs.length hi - HT.sIx xs.length 0 lo)
theorem dpa_cut {K : PySem.W.Frag} {G : Hp} {vs : List V} {ds : List PyData} (h : DpAll K G vs ds) (lo hi : Option Int) : DpAll K G (cutV vs lo hi) (cutL ds lo hi) := by
  unfold cutV cutL
  rw [dpa_len h]
  exact dpa_take _ (dpa_drop _ h)
theorem cut_whole {a : Type} {xs : List a} {lo hi : Option Int} (h : HT.sIx xs.length 0 lo = 0 ∧ HT.sIx xs.length xs.length hi = xs.length) : cutL xs lo hi = xs := by
  unfold cutL
  rw [h.1, h.2]
  simp
def fSl (a : PyData) (lo hi : Option Int) : W PyData := match a with
  | .tuple ds => pure (.tuple (cutL ds lo hi))
  | .list ds => pure (.list (cutL ds lo hi))
  | .str z => do W.need (z.length ≤ sizeLine); pure (.str (cutS z lo hi))
  | _ => W.fail
def mSl (m : Env → W PyData) (ml mh : Env → W (Option Int)) : Env → W PyData := fun env => do let a ← m env; let l ← ml env; let h ← mh env; fSl a l h
theorem tj_sl {K : PySem.W.Frag} {te : TE} {tl th : TO} {m : Env → W PyData} {ml mh : Env → W (Option Int)} (h : TJ K te m) (hl : TJO K tl ml) (hh : TJO K th mh) : TJ K (tSl (rSlZ K) te tl th) (mSl m ml mh) := fun B G env σ H ok Q q =>
  h B G env σ H ok _ ((m env).mono (fun a q1 v G1 H1 e1 f1 d1 => hl B G1 env σ H1 (ok.go e1 f1) _ ((ml env).mono (fun l q2 G2 H2 e2 f2 => hh B G2 env σ H2 (ok.go (e1.trans e2) f2) _ ((mh env).mono (fun u q3 G3 H3 e3 f3 => by
    have e := e1.trans (e2.trans e3)
    have d3 := dp_ex (e2.trans e3) d1
    cases a with
    | tuple ds =>
      obtain ⟨p, vs, rfl, h1, h2⟩ := dp_tup d3
      refine .inl ⟨p, vs, rfl, ex_t f3.ex h1, fun c => ?_, fun c t ht => ?_⟩
      · rw [dpa_len h2] at c
        exact q3 _ G3 H3 e f3 (.tup h1 (by rw [cut_whole c]; exact h2))
      · obtain ⟨f4, e4, g4⟩ := f3.alloc (o := .tup (cutV vs l u)) ht
        exact q3 _ _ _ (e.trans e4) f4 (.tup (Or.inl (Or.inl upd_same)) (dpa_ex e4 (dpa_cut h2 l u)))
    | list ds =>
      obtain ⟨p, vs, rfl, h1, h2⟩ := dp_lst d3
      refine .inr (.inl ⟨p, vs, rfl, ex_l f3.ex h1, fun t ht => ?_⟩)
      obtain ⟨f4, e4, g4⟩ := f3.alloc (o := .lst (cutV vs l u)) ht
      exact q3 _ _ _ (e.trans e4) f4 (.lst (Or.inl (Or.inl upd_same)) (dpa_ex e4 (dpa_cut h2 l u)))
    | str z =>
      cases d3
      exact .inr (.inr ⟨z, rfl, q3.1, q3.2 _ G3 H3 e f3 (.str _)⟩)
    | _ => exact q3.elim) q2)) q1)) q)
/-- a new list by an operator -/
def OJL (K : PySem.W.Frag) (r : R2) (f : PyData → PyData → W (List PyData)) : Prop :=
  ∀ (G H : Hp) (x y : V) (dx dy : PyData), Ex G H → Dp K G x dx → Dp K G y dy → ∀ Q : VK, ((f dx dy).run fun ds => ∀ p vs, H p = none → DpAll K G vs ds → Q (.ref p) (upd H p (.lst vs))) → r x y H Q
def m2L (f : PyData → PyData → W (List PyData)) (ma mb : Env → W PyData) : Env → W (List PyData) := fun env => do let a ← ma env; let b ← mb env; f a b
theorem tjl_op {K : PySem.W.Frag} {ta tb : TE} {ma mb : Env → W PyData} {r : R2} {f : PyData → PyData → W (List PyData)} (hr : OJL K r f) (ha : TJ K ta ma) (hb : TJ K tb mb) : TJL K (tOp r ta tb) (m2L f ma mb) := fun B G env σ H ok Q q =>
  ha B G env σ H ok _ ((ma env).mono (fun a q1 v G1 H1 e1 f1 d1 => hb B G1 env σ H1 (ok.go e1 f1) _ ((mb env).mono (fun b q2 u G2 H2 e2 f2 d2 =>
    hr G2 H2 v u a b f2.ex (dp_ex e2 d1) d2 Q ((f a b).mono (fun ds q3 p vs hp hd => q3 p vs G2 _ (e1.trans e2) (f2.lay hp) (f2.free hp) (fresh_back f2.ex hp) upd_same hd) q2)) q1)) q)
def fCatL : PyData → PyData → W (List PyData)
  | .list a, .list b => do W.need (a.length + b.length ≤ sizeLine); pure (a ++ b)
  | _, _ => W.fail
theorem ojl_cat {K : PySem.W.Frag} : OJL K (rAddZ K) fCatL := by
  intro G H x y dx dy ex hx hy Q q
  cases dx with
  | list a =>
    cases dy with
    | list b =>
      obtain ⟨p, vs, rfl, h1, h2⟩ := dp_lst hx
      obtain ⟨p', vs', rfl, h1', h2'⟩ := dp_lst hy
      exact .inr (.inr (.inr ⟨p, p', vs, vs', rfl, rfl, ex_l ex h1, ex_l ex h1', by rw [dpa_len h2, dpa_len h2']; exact q.1, fun t ht => q.2 t _ ht (dpa_app h2 h2')⟩))
    | _ => exact q.elim
  | _ => exact q.elim
end Z
namespace Z
variable [PoC]
open PySem PySem.Spec PyProof.Rows L2
open Evl (Ex fresh_back)
section
variable {K : PySem.W.Frag} {te ta tb : TE} {m ma mb : Env → W PyData}
/-! ### tests -/
def asB : PyData → W Bool
  | .bool b => pure b
  | _ => W.fail
def mBool (m : Env → W PyData) : Env → W Bool := fun env => do asB (← m env)
theorem tjt_test (h : TJ K te m) : TJT K (tTest te) (mBool m) := fun B G env σ H ok Q q =>
  h B G env σ H ok _ ((m env).mono (fun d q1 v G1 H1 e1 f1 d1 => by
    cases d with
    | bool b => cases d1; exact ⟨b, rfl, q1 G1 H1 e1 f1⟩
    | _ => exact q1.elim) q)
theorem tjt_b (h : TJ K te m) : TJT K (tB te) (mBool m) := tjt_test h
def truthD : PyData → W Bool
  | .none => pure false
  | .bool b => pure b
  | .int i => pure (i != 0)
  | .str z => do W.need (z.length ≤ sizeLine); pure ((z.length : Int) != 0)
  | .list ds => pure (!ds.isEmpty)
  | .tuple ds => pure (!ds.isEmpty)
  | .dict _ => W.fail
def mTruth (m : Env → W PyData) : Env → W Bool := fun env => do truthD (← m env)
theorem dpa_empty {G : Hp} {vs : List V} {ds : List PyData} (h : DpAll K G vs ds) : vs.isEmpty = ds.isEmpty := by cases h <;> rfl
theorem tjt_truth (h : TJ K ta m) : TJT K (fun σ H Q => ta σ H fun x H' => ∃ k, TruV K x H' k ∧ Q k H') (mTruth m) := fun B G env σ H ok Q q =>
  h B G env σ H ok _ ((m env).mono (fun d q1 v G1 H1 e1 f1 d1 => by
    cases d with
    | none => cases d1; exact ⟨_, rfl, q1 G1 H1 e1 f1⟩
    | bool b => cases d1; exact ⟨_, rfl, q1 G1 H1 e1 f1⟩
    | int i => cases d1; exact ⟨_, rfl, q1 G1 H1 e1 f1⟩
    | str z => cases d1; exact ⟨_, ⟨q1.1, rfl⟩, q1.2 G1 H1 e1 f1⟩
    | list ds =>
      obtain ⟨p, vs, rfl, h1, h2⟩ := dp_lst d1
      exact ⟨_, .inl ⟨vs, ex_l f1.ex h1, rfl⟩, by rw [dpa_empty h2]; exact q1 G1 H1 e1 f1⟩
    | tuple ds =>
      obtain ⟨p, vs, rfl, h1, h2⟩ := dp_tup d1
      exact ⟨_, .inr (.inl ⟨vs, ex_t f1.ex h1, rfl⟩), by rw [dpa_empty h2]; exact q1 G1 H1 e1 f1⟩
    | dict _ => exact q1.elim) q)
variable {t u : TT} {mt mu : Env → W Bool}
def mAnd (a b : Env → W Bool) : Env → W Bool := fun env => do if (← a env) = true then b env else pure false
def mOr (a b : Env → W Bool) : Env → W Bool := fun env => do if (← a env) = true then pure true else b env
def mNot (a : Env → W Bool) : Env → W Bool := fun env => do pure (!(← a env))
theorem tjt_and (h1 : TJT K t mt) (h2 : TJT K u mu) : TJT K (tAnd t u) (mAnd mt mu) := fun B G env σ H ok Q q =>
  h1 B G env σ H ok _ ((mt env).mono (fun b q1 G1 H1 e1 f1 => by
    cases b with
    | true => exact h2 B G1 env σ H1 (ok.go e1 f1) Q ((mu env).mono (fun c q2 G2 H2 e2 f2 => q2 G2 H2 (e1.trans e2) f2) q1)
    | false => exact q1 G1 H1 e1 f1) q)
theorem tjt_or (h1 : TJT K t mt) (h2 : TJT K u mu) : TJT K (tOr t u) (mOr mt mu) := fun B G env σ H ok Q q =>
  h1 B G env σ H ok _ ((mt env).mono (fun b q1 G1 H1 e1 f1 => by
    cases b with
    | false => exact h2 B G1 env σ H1 (ok.go e1 f1) Q ((mu env).mono (fun c q2 G2 H2 e2 f2 => q2 G2 H2 (e1.trans e2) f2) q1)
    | true => exact q1 G1 H1 e1 f1) q)
theorem tjt_not (h1 : TJT K t mt) : TJT K (tNot t) (mNot mt) := fun B G env σ H ok Q q =>
  h1 B G env σ H ok _ ((mt env).mono (fun b q1 G1 H1 e1 f1 => q1 G1 H1 e1 f1) q)
def mAndV (a b : Env → W PyData) : Env → W PyData := fun env => do if (← asB (← a env)) = true then b env else pure (.bool false)
def mOrV (a b : Env → W PyData) : Env → W PyData := fun env => do if (← asB (← a env)) = true then pure (.bool true) else b env
def mNotV (a : Env → W PyData) : Env → W PyData := fun env => do pure (.bool (!(← asB (← a env))))
theorem tj_andV (h1 : TJ K ta ma) (h2 : TJ K tb mb) : TJ K (tAndV ta tb) (mAndV ma mb) := fun B G env σ H ok Q q =>
  h1 B G env σ H ok _ ((ma env).mono (fun d q1 v G1 H1 e1 f1 d1 => by
    cases d with
    | bool b =>
      cases d1
      refine ⟨b, rfl, ?_⟩
      cases b with
      | true => exact h2 B G1 env σ H1 (ok.go e1 f1) Q ((mb env).mono (fun c q2 w G2 H2 e2 f2 => q2 w G2 H2 (e1.trans e2) f2) q1)
      | false => exact q1 _ G1 H1 e1 f1 (.bl _)
    | _ => exact q1.elim) q)
theorem tj_orV (h1 : TJ K ta ma) (h2 : TJ K tb mb) : TJ K (tOrV ta tb) (mOrV ma mb) := fun B G env σ H ok Q q =>
  h1 B G env σ H ok _ ((ma env).mono (fun d q1 v G1 H1 e1 f1 d1 => by
    cases d with
    | bool b =>
      cases d1
      refine ⟨b, rfl, ?_⟩
      cases b with
      | false => exact h2 B G1 env σ H1 (ok.go e1 f1) Q ((mb env).mono (fun c q2 w G2 H2 e2 f2 => q2 w G2 H2 (e1.trans e2) f2) q1)
      | true => exact q1 _ G1 H1 e1 f1 (.bl _)
    | _ => exact q1.elim) q)
theorem tj_notV (h1 : TJ K ta ma) : TJ K (tNotV ta) (mNotV ma) := fun B G env σ H ok Q q =>
  h1 B G env σ H ok _ ((ma env).mono (fun d q1 v G1 H1 e1 f1 d1 => by
    cases d with
    | bool b => cases d1; exact ⟨b, rfl, q1 _ G1 H1 e1 f1 (.bl _)⟩
    | _ => exact q1.elim) q)
def mIf (c : Env → W Bool) (a b : Env → W PyData) : Env → W PyData := fun env => do if (← c env) = true then a env else b env
theorem tj_if (hc : TJT K t mt) (h1 : TJ K ta ma) (h2 : TJ K tb mb) : TJ K (tIf t ta tb) (mIf mt ma mb) := fun B G env σ H ok Q q =>
  hc B G env σ H ok _ ((mt env).mono (fun b q1 G1 H1 e1 f1 => by
    cases b with
    | true => exact h1 B G1 env σ H1 (ok.go e1 f1) Q ((ma env).mono (fun c q2 w G2 H2 e2 f2 => q2 w G2 H2 (e1.trans e2) f2) q1)
    | false => exact h2 B G1 env σ H1 (ok.go e1 f1) Q ((mb env).mono (fun c q2 w G2 H2 e2 f2 => q2 w G2 H2 (e1.trans e2) f2) q1)) q)
/-- a test of an if as a value: the chain a < b < c -/
theorem tj_is {m' : Env → W PyData} (h : TJ K te m) (e : m = m') : TJ K te m' := e ▸ h
def mChain (f g : PyData → PyData → W PyData) (ma mb mc : Env → W PyData) : Env → W PyData := fun env => do
  let a ← ma env; let b ← mb env
  if (← asB (← f a b)) = true then (do let c ← mc env; g b c) else pure (.bool false)
theorem tj_chain {r r' : R2} {f g : PyData → PyData → W PyData} {tc : TE} {mc : Env → W PyData} (hr : OJ K r f) (hr' : OJ K r' g) (ha : TJ K ta ma) (hb : TJ K tb mb) (hc : TJ K tc mc) : TJ K (tChain r r' ta tb tc) (mChain f g ma mb mc) := fun B G env σ H ok Q q =>
  ha B G env σ H ok _ ((ma env).mono (fun a q1 v G1 H1 e1 f1 d1 => hb B G1 env σ H1 (ok.go e1 f1) _ ((mb env).mono (fun b q2 u G2 H2 e2 f2 d2 =>
    hr G2 H2 v u a b f2.ex (dp_ex e2 d1) d2 _ ((f a b).mono (fun d q3 w G3 H3 st d3 => by
      obtain ⟨f3, e3⟩ := st.fra f2
      cases d with
      | bool k =>
        cases d3
        refine ⟨k, rfl, ?_⟩
        cases k with
        | true =>
          exact hc B G3 env σ H3 (ok.go ((e1.trans e2).trans e3) f3) _ ((mc env).mono (fun c q4 x G4 H4 e4 f4 d4 => hr' G4 H4 u x b c f4.ex (dp_ex (e3.trans e4) d2) d4 Q ((g b c).mono (fun z q5 y G5 H5 st5 d5 =>
            q5 y G5 H5 (((e1.trans e2).trans (e3.trans e4)).trans (st5.fra f4).2) (st5.fra f4).1 d5) q4)) q3)
        | false => exact q3 _ G3 H3 ((e1.trans e2).trans e3) f3 (.bl _)
      | _ => exact q3.elim) q2)) q1)) q)
/-! ### built-ins -/
def CJ (K : PySem.W.Frag) (r : List V → Hp → VK → Prop) (f : List PyData → W PyData) : Prop :=
  ∀ (G H : Hp) (vs : List V) (ds : List PyData), Ex G H → DpAll K G vs ds → ∀ Q : VK, ((f ds).run fun d => ∀ v G' H', Stp G H G' H' → Dp K G' v d → Q v H') → r vs H Q
def mCB (f : List PyData → W PyData) (md : Env → W (List PyData)) : Env → W PyData := fun env => do f (← md env)
theorem tj_cb {r : List V → Hp → VK → Prop} {f : List PyData → W PyData} {tl : TA} {md : Env → W (List PyData)} (hr : CJ K r f) (ha : TJD K tl md) : TJ K (tCB r tl) (mCB f md) := fun B G env σ H ok Q q =>
  ha B G env σ H ok _ ((md env).mono (fun ds q1 vs G1 H1 e1 f1 d1 => hr G1 H1 vs ds f1.ex d1 Q ((f ds).mono (fun d q3 w G3 H3 st d3 => q3 w G3 H3 (e1.trans (st.fra f1).2) (st.fra f1).1 d3) q1)) q)
/-- .. that give a new list -/
def CJL (K : PySem.W.Frag) (r : List V → Hp → VK → Prop) (f : List PyData → W (List PyData)) : Prop :=
  ∀ (G H : Hp) (vs : List V) (ds : List PyData), Ex G H → DpAll K G vs ds → ∀ Q : VK, ((f ds).run fun es => ∀ p ws, H p = none → DpAll K G ws es → Q (.ref p) (upd H p (.lst ws))) → r vs H Q
def mCBL (f : List PyData → W (List PyData)) (md : Env → W (List PyData)) : Env → W (List PyData) := fun env => do f (← md env)
theorem tjl_cb {r : List V → Hp → VK → Prop} {f : List PyData → W (List PyData)} {tl : TA} {md : Env → W (List PyData)} (hr : CJL K r f) (ha : TJD K tl md) : TJL K (tCB r tl) (mCBL f md) := fun B G env σ H ok Q q =>
  ha B G env σ H ok _ ((md env).mono (fun ds q1 vs G1 H1 e1 f1 d1 => hr G1 H1 vs ds f1.ex d1 Q ((f ds).mono (fun es q3 p ws hp d3 => q3 p ws G1 _ e1 (f1.lay hp) (f1.free hp) (fresh_back f1.ex hp) upd_same d3) q1)) q)
theorem dpa_one {G : Hp} {vs : List V} {d : PyData} (h : DpAll K G vs [d]) : ∃ v, vs = [v] ∧ Dp K G v d := by cases h with | cons a r => cases r; exact ⟨_, rfl, a⟩
theorem dpa_two {G : Hp} {vs : List V} {d e : PyData} (h : DpAll K G vs [d, e]) : ∃ v w, vs = [v, w] ∧ Dp K G v d ∧ Dp K G w e := by cases h with | cons a r => cases r with | cons b r => cases r; exact ⟨_, _, rfl, a, b⟩
def fLen : List PyData → W PyData
  | [.str z] => do W.need (z.length ≤ sizeLine); pure (.int z.length)
  | [.list ds] => pure (.int ds.length)
  | [.tuple ds] => pure (.int ds.length)
  | _ => W.fail
theorem cj_len : CJ K (fun xs H Q => ∃ x n, xs = [x] ∧ LenV K x H n ∧ Q (.int n) H) fLen := by
  intro G H vs ds ex h Q q
  match ds, h, q with
  | [.str z], h, q =>
    obtain ⟨v, rfl, hv⟩ := dpa_one h
    cases hv
    exact ⟨_, z.length, rfl, ⟨q.1, rfl⟩, q.2 _ G H .same (.int _)⟩
  | [.list ds], h, q =>
    obtain ⟨v, rfl, hv⟩ := dpa_one h
    obtain ⟨p, vs, rfl, h1, h2⟩ := dp_lst hv
    exact ⟨_, ds.length, rfl, .inl ⟨vs, ex_l ex h1, (dpa_len h2).symm⟩, q _ G H .same (.int _)⟩
  | [.tuple ds], h, q =>
    obtain ⟨v, rfl, hv⟩ := dpa_one h
    obtain ⟨p, vs, rfl, h1, h2⟩ := dp_tup hv
    exact ⟨_, ds.length, rfl, .inr ⟨vs, ex_t ex h1, (dpa_len h2).symm⟩, q _ G H .same (.int _)⟩
def fAbs : List PyData → W PyData
  | [.int i] => pure (.int (if i < 0 then -i else i))
  | _ => W.fail
theorem cj_abs : CJ K (fun xs H Q => ∃ i, xs = [.int i] ∧ Q (.int (if i < 0 then -i else i)) H) fAbs := by
  intro G H vs ds ex h Q q
  match ds, h, q with
  | [.int i], h, q => obtain ⟨v, rfl, hv⟩ := dpa_one h; cases hv; exact ⟨i, rfl, q _ G H .same (.int _)⟩
def fMax2 : List PyData → W PyData
  | [.int i, .int j] => pure (.int (if j > i then j else i))
  | _ => W.fail
def fMin2 : List PyData → W PyData
  | [.int i, .int j] => pure (.int (if j < i then j else i))
  | _ => W.fail
theorem cj_max2 : CJ K (fun xs H Q => ∃ i j, xs = [.int i, .int j] ∧ Q (.int (if j > i then j else i)) H) fMax2 := by
  intro G H vs ds ex h Q q
  match ds, h, q with
  | [.int i, .int j], h, q => obtain ⟨v, w, rfl, hv, hw⟩ := dpa_two h; cases hv; cases hw; exact ⟨i, j, rfl, q _ G H .same (.int _)⟩
theorem cj_min2 : CJ K (fun xs H Q => ∃ i j, xs = [.int i, .int j] ∧ Q (.int (if j < i then j else i)) H) fMin2 := by
  intro G H vs ds ex h Q q
  match ds, h, q with
  | [.int i, .int j], h, q => obtain ⟨v, w, rfl, hv, hw⟩ := dpa_two h; cases hv; cases hw; exact ⟨i, j, rfl, q _ G H .same (.int _)⟩
def fInt1 : List PyData → W PyData
  | [.int i] => pure (.int i)
  | [.bool b] => pure (.int (if b then 1 else 0))
  | _ => W.fail
theorem cj_int1 : CJ K (fun xs H Q => (∃ i, xs = [.int i] ∧ Q (.int i) H) ∨ ∃ k, xs = [.bl k] ∧ Q (.int (if k then 1 else 0)) H) fInt1 := by
  intro G H vs ds ex h Q q
  match ds, h, q with
  | [.int i], h, q => obtain ⟨v, rfl, hv⟩ := dpa_one h; cases hv; exact .inl ⟨i, rfl, q _ G H .same (.int _)⟩
  | [.bool i], h, q => obtain ⟨v, rfl, hv⟩ := dpa_one h; cases hv; exact .inr ⟨i, rfl, q _ G H .same (.int _)⟩
def fStrI : List PyData → W PyData
  | [.int i] => do W.need (i.natAbs.log2 < 1920); pure (.str (toString i))
  | _ => W.fail
theorem cj_strI : CJ K (fun xs H Q => ∃ i, xs = [.int i] ∧ i.natAbs.log2 < 1920 ∧ Q (.str (toString i)) H) fStrI := by
  intro G H vs ds ex h Q q
  match ds, h, q with
  | [.int i], h, q => obtain ⟨v, rfl, hv⟩ := dpa_one h; cases hv; exact ⟨i, rfl, q.1, q.2 _ G H .same (.str _)⟩
/-- a list of ints as data -/
def intsD : List PyData → Option (List Int)
  | [] => some []
  | .int i :: r => (intsD r).map (i :: ·)
  | _ => none
theorem intsD_vs {G : Hp} : ∀ {vs : List V} {ds : List PyData} {ns : List Int}, DpAll K G vs ds → intsD ds = some ns → vs = ns.map V.int
  | _, [], ns, .nil, e => by cases e; rfl
  | _, d :: r, ns, .cons a h, e => by
    cases d with
    | int i =>
      cases c : intsD r with
      | none => simp [intsD, c] at e
      | some ms => simp [intsD, c] at e; subst e; cases a; rw [intsD_vs h c]; rfl
    | _ => simp [intsD] at e
def fSum : List PyData → W PyData
  | [.list ds] => match intsD ds with
    | some ns => pure (.int ns.sum)
    | none => W.fail
  | _ => W.fail
theorem cj_sum : CJ K (rSum K) fSum := by
  intro G H vs ds ex h Q q
  match ds, h, q with
  | [.list ds], h, q =>
    obtain ⟨v, rfl, hv⟩ := dpa_one h
    obtain ⟨p, vs, rfl, h1, h2⟩ := dp_lst hv
    simp only [fSum] at q
    cases e : intsD ds with
    | none => rw [e] at q; exact q.elim
    | some ns => rw [e] at q; exact ⟨p, ns, rfl, intsD_vs h2 e ▸ ex_l ex h1, q _ G H .same (.int _)⟩
def fMaxL : List PyData → W PyData
  | [.list ds] => match intsD ds with
    | some ns => do W.need (0 < ns.length); let m ← W.some (fun m => m ∈ ns ∧ ∀ y, y ∈ ns → y ≤ m); pure (.int m)
    | none => W.fail
  | _ => W.fail
theorem cj_maxL : CJ K (rMax K) fMaxL := by
  intro G H vs ds ex h Q q
  match ds, h, q with
  | [.list ds], h, q =>
    obtain ⟨v, rfl, hv⟩ := dpa_one h
    obtain ⟨p, vs, rfl, h1, h2⟩ := dp_lst hv
    simp only [fMaxL] at q
    cases e : intsD ds with
    | none => rw [e] at q; exact q.elim
    | some ns => rw [e] at q; exact ⟨p, ns, rfl, intsD_vs h2 e ▸ ex_l ex h1, q.1, fun m a b => q.2 m ⟨a, b⟩ _ G H .same (.int _)⟩
def fMinL : List PyData → W PyData
  | [.list ds] => match intsD ds with
    | some ns => do W.need (0 < ns.length); let m ← W.some (fun m => m ∈ ns ∧ ∀ y, y ∈ ns → m ≤ y); pure (.int m)
    | none => W.fail
  | _ => W.fail
theorem cj_minL : CJ K (rMin K) fMinL := by
  intro G H vs ds ex h Q q
  match ds, h, q with
  | [.list ds], h, q =>
    obtain ⟨v, rfl, hv⟩ := dpa_one h
    obtain ⟨p, vs, rfl, h1, h2⟩ := dp_lst hv
    simp only [fMinL] at q
    cases e : intsD ds with
    | none => rw [e] at q; exact q.elim
    | some ns => rw [e] at q; exact ⟨p, ns, rfl, intsD_vs h2 e ▸ ex_l ex h1, q.1, fun m a b => q.2 m ⟨a, b⟩ _ G H .same (.int _)⟩
def fTupOf : List PyData → W PyData
  | [.list ds] => pure (.tuple ds)
  | [.tuple ds] => pure (.tuple ds)
  | _ => W.fail
theorem cj_tupOf : CJ K (fun xs H Q => ∃ p ys, xs = [.ref p] ∧ ((SqL K H p ys ∧ ∀ l, H l = none → Q (.ref l) (upd H l (.tup ys))) ∨ (SqT K H p ys ∧ Q (.ref p) H))) fTupOf := by
  intro G H vs ds ex h Q q
  match ds, h, q with
  | [.list ds], h, q =>
    obtain ⟨v, rfl, hv⟩ := dpa_one h
    obtain ⟨p, vs, rfl, h1, h2⟩ := dp_lst hv
    exact ⟨p, vs, rfl, .inl ⟨ex_l ex h1, fun l hl => q _ _ _ (.new hl) (.tup (Or.inl (Or.inl upd_same)) (dpa_ex (Ex.new (fresh_back ex hl)) h2))⟩⟩
  | [.tuple ds], h, q =>
    obtain ⟨v, rfl, hv⟩ := dpa_one h
    obtain ⟨p, vs, rfl, h1, h2⟩ := dp_tup hv
    exact ⟨p, vs, rfl, .inr ⟨ex_t ex h1, q _ G H .same hv⟩⟩
theorem vals_signs : ∀ (l : List Nat) (its : List Value), its.length = l.length → (∀ (j : Nat) v, its[j]? = some v → ∃ c u, l[j]? = some c ∧ v = Value.str ⟨#[c]⟩ u) → Vals (l.map fun c => V.str ⟨#[c]⟩) its
  | [], [], _, _ => .nil
  | [], _ :: _, h, _ => by simp at h
  | _ :: _, [], h, _ => by simp at h
  | c :: l, v :: its, h, g => by
    obtain ⟨c', u, h1, rfl⟩ := g 0 v rfl
    have : c = c' := by simpa using h1
    subst this
    exact .cons ⟨u, rfl⟩ (vals_signs l its (by simpa using h) fun j w hw => by
      obtain ⟨c2, u2, h2, h3⟩ := g (j + 1) w (by simpa using hw)
      exact ⟨c2, u2, by simpa using h2, h3⟩)
def rListZ (K : PySem.W.Frag) : List V → Hp → VK → Prop := fun xs H Q => (∃ p ys, xs = [.ref p] ∧ (SqL K H p ys ∨ SqT K H p ys) ∧ ∀ l, H l = none → Q (.ref l) (upd H l (.lst ys))) ∨
  ∃ z, xs = [.str z] ∧ z.length ≤ sizeLine ∧ ∀ l, H l = none → Q (.ref l) (upd H l (.lst (z.cps.toList.map fun c => V.str ⟨#[c]⟩)))
theorem call_listZ {X : Cx} (hc : X.calm = true) : CallR X (.type "list") (rListZ X.K) := by
  intro pins s σ H xs us Q I r h
  rcases h with h | ⟨z, rfl, hz, q⟩
  · exact call_list_of pins s σ H xs us Q I r h
  · obtain ⟨u, rfl, rx⟩ := vals1 r
    obtain ⟨t, rfl⟩ := rx
    refine call_list_str (I.ok.hd hc) z _ (fun h' tk acc' c' hk hS' hacc => ?_) hz
    have hl : acc'.size = z.cps.size := hacc.1
    have hv : Vals (z.cps.toList.map fun c => V.str ⟨#[c]⟩) acc'.toList := vals_signs _ _ (by simp [hl]) fun j v hv => by
      obtain ⟨c, u, h1, h2⟩ := hacc.2 j v (by simpa using hv)
      exact ⟨c, u, by simpa using h1, h2⟩
    exact ⟨.ref s.heap.objs.size, _, I.laid (t' := tk) hk (Nat.le_refl _) (show ObjOk X.prog X.w _ h' _ (.lst _) from ⟨by simp; exact hz, acc'.toList, c', hv, by simpa using hS'⟩), rfl, q _ (I.hok.fresh (Nat.le_refl _))⟩
def fListOf : List PyData → W (List PyData)
  | [.list ds] => pure ds
  | [.tuple ds] => pure ds
  | [.str z] => do W.need (z.length ≤ sizeLine); pure (z.cps.toList.map fun c => .str ⟨#[c]⟩)
  | _ => W.fail
theorem dpa_signs {G : Hp} : ∀ l : List Nat, DpAll K G (l.map fun c => V.str ⟨#[c]⟩) (l.map fun c => PyData.str ⟨#[c]⟩)
  | [] => .nil
  | c :: l => .cons (.str _) (dpa_signs l)
theorem cjl_listOf : CJL K (rListZ K) fListOf := by
  intro G H vs ds ex h Q q
  match ds, h, q with
  | [.list ds], h, q =>
    obtain ⟨v, rfl, hv⟩ := dpa_one h
    obtain ⟨p, vs, rfl, h1, h2⟩ := dp_lst hv
    exact .inl ⟨p, vs, rfl, .inl (ex_l ex h1), fun l hl => q _ _ hl h2⟩
  | [.tuple ds], h, q =>
    obtain ⟨v, rfl, hv⟩ := dpa_one h
    obtain ⟨p, vs, rfl, h1, h2⟩ := dp_tup hv
    exact .inl ⟨p, vs, rfl, .inr (ex_t ex h1), fun l hl => q _ _ hl h2⟩
  | [.str z], h, q =>
    obtain ⟨v, rfl, hv⟩ := dpa_one h
    cases hv
    exact .inr ⟨z, rfl, q.1, fun l hl => q.2 l _ hl (dpa_signs _)⟩
/-! sorted -/
def rSortZ (K : PySem.W.Frag) : List V → Hp → VK → Prop := fun xs H Q => ∃ a vs ds, xs = [.ref a] ∧ (SqL K H a vs ∨ SqT K H a vs) ∧ DpAll K H vs ds ∧ sortable ds ∧ ds.length ≤ sizeLine ∧
  ∀ p ws, H p = none → (∀ G, DpAll K G vs ds → DpAll K G ws (sortD ds)) → Q (.ref p) (upd H p (.lst ws))
theorem dpa_zip {K : PySem.W.Frag} {G : Hp} : ∀ {vs : List V} {ds : List PyData}, DpAll K G vs ds → ∀ x d, (x, d) ∈ vs.zip ds → Dp K G x d
  | _, _, .nil, x, d, h => by simp at h
  | _, _, .cons a r, x, d, h => by
    simp only [List.zip_cons_cons, List.mem_cons, Prod.mk.injEq] at h
    rcases h with ⟨rfl, rfl⟩ | h
    · exact a
    · exact dpa_zip r x d h
theorem each_of {X : Cx} {pins : List (Addr × Obj)} {σ : L2.St} {H : Hp} {s : Shared} (I : Inv X pins σ H s) : ∀ {vs : List V} {us : List Value} {ds : List PyData} (all : List (V × PyData)), Vals vs us → DpAll X.K H vs ds → (∀ p, p ∈ vs.zip ds → p ∈ all) →
    PySem.W.EachIs (fun u d => ∃ x, RelV x u ∧ (x, d) ∈ all) us ds ∧ PySem.W.EachIs (fun u d => ∃ as, Reads s.heap u d as) us ds
  | _, _, _, _, .nil, .nil, _ => ⟨.nil, .nil⟩
  | _, _, _, all, .cons r rs, .cons d ds, h => by
    have q := each_of I all rs ds fun p hp => h p (by simp [hp])
    exact ⟨.cons ⟨_, r, h _ (by simp)⟩ q.1, .cons (Dp.reads I _ _ _ (dp0 d) r) q.2⟩
theorem each_back {K : PySem.W.Frag} {all : List (V × PyData)} : ∀ {us : List Value} {ds : List PyData}, PySem.W.EachIs (fun u d => ∃ x, RelV x u ∧ (x, d) ∈ all) us ds → ∃ vs, Vals vs us ∧ ∀ G, (∀ x d, (x, d) ∈ all → Dp K G x d) → DpAll K G vs ds
  | _, _, .nil => ⟨[], .nil, fun _ _ => .nil⟩
  | _, _, .cons ⟨x, r, d⟩ t => by
    obtain ⟨vs, h1, h2⟩ := each_back (K := K) t
    exact ⟨x :: vs, .cons r h1, fun G h => .cons (h _ _ d) (h2 G h)⟩
theorem call_sortZ {X : Cx} (hu : X.A.units + 64 < cLine) : CallR X (.builtin "sorted") (rSortZ X.K) := by
  intro pins s σ H xs us Q I r h
  obtain ⟨a, vs, ds, rfl, hv, hd, hs, hz, q⟩ := h
  obtain ⟨u, rfl, rx⟩ := vals1 r
  cases rx
  have main : ∀ (its : List Value) (T : String) (o : Obj) (n : Nat), (T = "list" ∨ T = "tuple") → s.heap.get? a = some o → o.cls = .type T → o.data = .seq its.toArray n → Vals vs its →
      wpAny (model X.prog X.w) X.A (call (.builtin "sorted") [.ref a]) (EP X pins σ Q) X.xe s := by
    intro its T o n hT ho hc hdt rv
    obtain ⟨e1, e2⟩ := each_of I (vs.zip ds) rv hd fun _ h => h
    have hl : its.length = ds.length := e1.length
    refine sorted_any (ds := ds) (R := fun u d => ∃ x, RelV x u ∧ (x, d) ∈ vs.zip ds) (fun E' Q' h => ?_) hs hz (by omega) fun h1 p h' tk out n k1 hp k2 hat hlen ho => ?_
    · refine wpAny_collect_seq a hT ho hc hdt (fun h' k => ?_) (by simp [hl]; exact hz)
      have := h its h' s.toks k e1 e2
      simpa using this
    · obtain ⟨ws, w1, w2⟩ := each_back (K := X.K) ho
      have I1 : Inv X pins σ H { s with heap := h1, toks := tk } := I.kept k1
      exact ⟨.ref p, upd H p (.lst ws), I1.laid (t' := tk) k2 hp ⟨by rw [w1.length, hlen]; exact hz, out, n, w1, hat⟩, rfl, q p ws (I1.hok.fresh hp) fun G h => w2 G (dpa_zip h)⟩
  rcases hv with h1 | h1
  · obtain ⟨its, rv, pl, _⟩ := I.list h1
    obtain ⟨o, ho, hc, n, hdt⟩ := pl.isList
    exact main its "list" o n (.inl rfl) ho hc hdt rv
  · obtain ⟨its, rv, pl, _⟩ := I.tuple h1
    obtain ⟨o, ho, hc, n, hdt⟩ := pl
    exact main its "tuple" o n (.inr rfl) ho hc hdt rv
def fSorted : List PyData → W (List PyData)
  | [.list ds] => do W.need (sortable ds ∧ ds.length ≤ sizeLine); pure (sortD ds)
  | [.tuple ds] => do W.need (sortable ds ∧ ds.length ≤ sizeLine); pure (sortD ds)
  | _ => W.fail
theorem cjl_sorted : CJL K (rSortZ K) fSorted := by
  intro G H vs ds ex h Q q
  match ds, h, q with
  | [.list ds], h, q =>
    obtain ⟨v, rfl, hv⟩ := dpa_one h
    obtain ⟨p, vs, rfl, h1, h2⟩ := dp_lst hv
    exact ⟨p, vs, ds, rfl, .inl (ex_l ex h1), dpa_ex ex h2, q.1.1, q.1.2, fun p ws hp hd => q.2 p ws hp (hd G h2)⟩
  | [.tuple ds], h, q =>
    obtain ⟨v, rfl, hv⟩ := dpa_one h
    obtain ⟨p, vs, rfl, h1, h2⟩ := dp_tup hv
    exact ⟨p, vs, ds, rfl, .inr (ex_t ex h1), dpa_ex ex h2, q.1.1, q.1.2, fun p ws hp hd => q.2 p ws hp (hd G h2)⟩
end
end Z
namespace Z
variable [PoC]
open PySem PySem.Spec PyProof.Rows L2
open Evl (Ex fresh_back)
/-! ### xs.extend(list or tuple) -/
def rExtZ (K : PySem.W.Frag) : V → List V → Hp → VK → Prop := fun x vs H Q => ∃ l b xs zs, x = .ref l ∧ vs = [.ref b] ∧ H l = some (.lst xs) ∧ (SqL K H b zs ∨ SqT K H b zs) ∧ xs.length + zs.length ≤ sizeLine ∧ Q .non (upd H l (.lst (xs ++ zs)))
theorem mt_extZ {X : Cx} : MtM X "list.extend" (rExtZ X.K) := by
  intro pins s σ H x vs v us Q I rx rv h
  obtain ⟨l, b, xs, zs, rfl, rfl, hH, hB, hz, q⟩ := h
  cases rx
  obtain ⟨u, rfl, ru⟩ := rv.one
  cases ru
  obtain ⟨z, its, n, r, hl, e⟩ := I.lstM hH
  obtain ⟨its2, T, o, n2, hT, ho, hc, hd, r2⟩ : ∃ (its2 : List Value) (T : String) (o : Obj) (n2 : Nat), (T = "list" ∨ T = "tuple") ∧ s.heap.get? b = some o ∧ o.cls = .type T ∧ o.data = .seq its2.toArray n2 ∧ Vals zs its2 := by
    rcases hB with hB | hB
    · obtain ⟨its2, r2, pl, _⟩ := I.list hB
      obtain ⟨o, ho, hc, n2, hd⟩ := pl.isList
      exact ⟨its2, "list", o, n2, .inl rfl, ho, hc, hd, r2⟩
    · obtain ⟨its2, r2, pl, _⟩ := I.tuple hB
      obtain ⟨o, ho, hc, n2, hd⟩ := pl
      exact ⟨its2, "tuple", o, n2, .inr rfl, ho, hc, hd, r2⟩
  have l2 := r2.length
  have hsz : its.toArray.size + its2.toArray.size ≤ sizeLine := by rw [List.size_toArray, List.size_toArray]; omega
  have hlong : ¬ (!its.toArray.isEmpty && Builtin.List.listTooLong (its.toArray.size + its2.toArray.size)) = true := by
    rw [notLongL hsz, Bool.and_false]
    exact Bool.false_ne_true
  refine wpAny_call_entry F.slot_list_extend ⟨_, e, rfl⟩ F.entry_list_extend ?_ (F.args_list_extend_2 _ _)
  show wpAny _ _ (Builtin.List.listExtendWith (.ref l) (.ref b) .none) _ _ s
  unfold Builtin.List.listExtendWith
  refine wpAny_bind (wpAny_typeOf ⟨o, ho, hc⟩ ?_)
  have h1 : (Builtin.List.listSameRef (.ref l) (.ref b) || Value.type T == Value.type "list" || Value.type T == Value.type "tuple") = true := by
    rcases hT with rfl | rfl <;> simp
  rw [if_pos h1]
  refine wpAny_bind (listItems_at ho hd (wpAny_bind (listItems_at e rfl ?_)))
  rw [if_neg hlong]
  refine wpAny_bind (listUpdate_at e rfl ?_ (by rw [List.size_toArray]; omega) (by simp only [Array.size_append]; omega))
  refine wpAny_pure ⟨_, rfl, .non, _, I.lset (its' := its ++ its2) hH e (by simp) (r.append r2) ?_, rfl, q⟩
  rw [List.length_append]
  omega

/-! ### the calls of the text's own defs -/
def RvOk (K : PySem.W.Frag) (BH G H : Hp) (v : V) : Rv → Prop
  | .im d => Dp K G v d
  | .fr ds => ∃ p vs, v = .ref p ∧ BH p = none ∧ G p = none ∧ H p = some (.lst vs) ∧ DpAll K G vs ds
  | .rk kvs => ∃ p es, v = .ref p ∧ G p = some (.dK es) ∧ KVD K G es kvs
  | .rt kvs => ∃ p es, v = .ref p ∧ Rd G p (.dT es) ∧ KVD K G es kvs
  | .ad a => ExcAt K a G v
def spF (K : PySem.W.Frag) (n : Nat) (F : List Sl → W Rv) : Sp := fun vs H Q _ => ∃ (G : Hp) (ops : List Opq) (args : List Sl), Fra (bas G H (fpsOf ops) ops) G H ∧ args.length = n ∧ Paired (ArgOk K ops G) vs args ∧
  (F args).run fun r => ∀ v G' H', Ex G G' → Fra (bas G H (fpsOf ops) ops) G' H' → RvOk K H G' H' v r → Q v H'
theorem paired_len {a b : Type} {R : a → b → Prop} : ∀ {l : List a} {m : List b}, Paired R l m → l.length = m.length
  | _, _, .nil => rfl
  | _, _, .cons _ r => by simp [paired_len r]
theorem spF_len {K : PySem.W.Frag} {n : Nat} {F : List Sl → W Rv} {vs : List V} {H : Hp} {Q : VK} {E : XK} (h : spF K n F vs H Q E) : vs.length = n := by
  obtain ⟨G, ops, args, _, h1, h2, _⟩ := h
  rw [paired_len h2, h1]
section
variable {K : PySem.W.Frag} {te ta tb : TE} {m ma mb : Env → W PyData}
def aNil : Env → W (List Sl) := fun _ => pure []
def aCons (ma : Env → W PyData) (mr : Env → W (List Sl)) : Env → W (List Sl) := fun env => do let a ← ma env; let r ← mr env; pure (.imm a :: r)
def aOpq (i : Nat) (mr : Env → W (List Sl)) : Env → W (List Sl) := fun env => match gt env i with
  | .opq k => do let r ← mr env; pure (.opq k :: r)
  | _ => W.fail
theorem tja_nil : TJA K tNil aNil := fun B G env σ H ok Q q => q [] G H (Ex.refl _) ok.fra .nil
theorem tja_cons {tr : TA} {mr : Env → W (List Sl)} (ha : TJ K ta ma) (hr : TJA K tr mr) : TJA K (tCons ta tr) (aCons ma mr) := fun B G env σ H ok Q q =>
  ha B G env σ H ok _ ((ma env).mono (fun a q1 v G1 H1 e1 f1 d1 => hr B G1 env σ H1 (ok.go e1 f1) _ ((mr env).mono (fun r q2 vs G2 H2 e2 f2 d2 => q2 (v :: vs) G2 H2 (e1.trans e2) f2 (.cons (dp_ex e2 d1) d2)) q1)) q)
theorem tja_opq {i : Nat} {tr : TA} {mr : Env → W (List Sl)} (hr : TJA K tr mr) : TJA K (tCons (tVar i) tr) (aOpq i mr) := fun B G env σ H ok Q q => by
  have s := ok.sl i
  unfold aOpq at q
  cases e : gt env i with
  | opq k =>
    rw [e] at s q
    obtain ⟨p, h1, h2⟩ := s
    refine ⟨_, sg_some h2, ?_⟩
    exact hr B G env σ H ok _ ((mr env).mono (fun r q2 vs G2 H2 e2 f2 d2 => q2 (.ref p.p :: vs) G2 H2 e2 f2 (.cons ⟨p, h1, rfl⟩ d2)) q)
  | _ => rw [e] at q; exact q.elim
def aDct (i : Nat) (mr : Env → W (List Sl)) : Env → W (List Sl) := fun env => match gt env i with
  | .rK kvs => do let r ← mr env; pure (.rK kvs :: r)
  | .rT kvs => do let r ← mr env; pure (.rT kvs :: r)
  | _ => W.fail
theorem tja_dct {i : Nat} {tr : TA} {mr : Env → W (List Sl)} (hr : TJA K tr mr) : TJA K (tCons (tVar i) tr) (aDct i mr) := fun B G env σ H ok Q q => by
  have s := ok.sl i
  unfold aDct at q
  cases e : gt env i with
  | rK kvs =>
    rw [e] at s q
    obtain ⟨p, es, h1, h2, h3⟩ := s
    refine ⟨_, sg_some h1, ?_⟩
    exact hr B G env σ H ok _ ((mr env).mono (fun r q2 vs G2 H2 e2 f2 d2 => q2 (.ref p :: vs) G2 H2 e2 f2 (.cons ⟨p, es, rfl, e2 _ _ h2, kvd_ex e2 h3⟩ d2)) q)
  | rT kvs =>
    rw [e] at s q
    obtain ⟨p, es, h1, h2, h3⟩ := s
    refine ⟨_, sg_some h1, ?_⟩
    exact hr B G env σ H ok _ ((mr env).mono (fun r q2 vs G2 H2 e2 f2 d2 => q2 (.ref p :: vs) G2 H2 e2 f2 (.cons ⟨p, es, rfl, rd_ex e2 h2, kvd_ex e2 h3⟩ d2)) q)
  | _ => rw [e] at q; exact q.elim
theorem fpsOf_mu {B : Ba} {G H : Hp} (f : Fra B G H) : ∀ a, a ∈ fpsOf B.ops → a ∈ B.mu ∨ B.H a = none := fun a ha => by
  obtain ⟨q, hq, h⟩ := mem_fpsOf.mp ha
  exact .inl ((f.ops q hq).2 a h).2
def asIm : Rv → W PyData
  | .im d => pure d
  | .fr ds => pure (.list ds)
  | .ad (.tz ds) => pure (.tuple ds)
  | _ => W.fail
def asFr : Rv → W (List PyData)
  | .fr ds => pure ds
  | _ => W.fail
def mCall (n : Nat) (F : List Sl → W Rv) (mr : Env → W (List Sl)) : Env → W PyData := fun env => do let args ← mr env; W.need (args.length = n); asIm (← F args)
def mCallL (n : Nat) (F : List Sl → W Rv) (mr : Env → W (List Sl)) : Env → W (List PyData) := fun env => do let args ← mr env; W.need (args.length = n); asFr (← F args)
theorem frz_fraO {B : Ba} {G' H' : Hp} {p : Addr} {o : HO} (f : Fra B G' H') (h0 : B.H p = none) (hp : H' p = some o) (hg : G' p = none) (ho : NF o) (ht : NT o) : Fra B (upd G' p o) H' ∧ Ex G' (upd G' p o) := by
  have e1 : Ex G' (upd G' p o) := Ex.new hg
  refine ⟨⟨fun a o ha => ?_, f.old.trans e1, f.keep, f.trk, fun a ha hb => ?_, fun q hq => ⟨(f.ops q hq).1, fun a ha => ⟨?_, ((f.ops q hq).2 a ha).2⟩⟩, f.opH, f.po, f.one, f.st, f.cl.upd ho, fun a xs e => ?_⟩, e1⟩
  rotate_left 3
  · have := f.tu a xs e
    rw [upd_ne (fun c => by subst c; rw [hp] at e; cases e; exact ht.elim)]; exact this
  · by_cases c : a = p
    · subst c; rw [upd_same] at ha; rw [hp]; exact ha
    · rw [upd_ne c] at ha; exact f.ex a o ha
  · rw [upd_ne (ne_fr ha h0)]; exact f.new a ha hb
  · rw [upd_ne (ne_fr (f.opH q hq a ha) h0)]; exact ((f.ops q hq).2 a ha).1
theorem frz_fra {B : Ba} {G' H' : Hp} {p : Addr} {vs : List V} (f : Fra B G' H') (h0 : B.H p = none) (hp : H' p = some (.lst vs)) (hg : G' p = none) : Fra B (upd G' p (.lst vs)) H' ∧ Ex G' (upd G' p (.lst vs)) := frz_fraO f h0 hp hg trivial trivial
theorem tj_call {n : Nat} {F : List Sl → W Rv} {E : XK} {tl : TA} {mr : Env → W (List Sl)} (ha : TJA K tl mr) : TJ K (tCall (spF K n F) [] E tl) (mCall n F mr) := fun B G env σ H ok Q q =>
  ha B G env σ H ok _ ((mr env).mono (fun args q1 vs G1 H1 e1 f1 d1 => by
    refine ⟨G1, B.ops, args, f1.at _ fun p hp a h => mem_fpsOf.mpr ⟨p, hp, h⟩, q1.1, by simpa using d1, (F args).mono (fun r q2 v G2 H2 e2 f2 rv => ?_) q1.2⟩
    have f3 := f1.back (fpsOf_mu f1) f2
    cases r with
    | im d => exact q2 v G2 H2 (e1.trans e2) f3 rv
    | fr ds =>
      obtain ⟨p, ws, rfl, h0, hg, hp, hd⟩ := rv
      obtain ⟨f4, e4⟩ := frz_fra f3 (f1.free h0) hp hg
      exact q2 _ _ H2 ((e1.trans e2).trans e4) f4 (.lst (Or.inl (Or.inl upd_same)) (dpa_ex e4 hd))
    | rk kvs => exact q2.elim
    | rt kvs => exact q2.elim
    | ad a =>
      cases a with
      | exc n => exact q2.elim
      | tz ds =>
        obtain ⟨p, us, rfl, h3, h4, _⟩ := rv
        exact q2 _ G2 H2 (e1.trans e2) f3 (.tup h3 h4)) q)
theorem tjl_call {n : Nat} {F : List Sl → W Rv} {E : XK} {tl : TA} {mr : Env → W (List Sl)} (ha : TJA K tl mr) : TJL K (tCall (spF K n F) [] E tl) (mCallL n F mr) := fun B G env σ H ok Q q =>
  ha B G env σ H ok _ ((mr env).mono (fun args q1 vs G1 H1 e1 f1 d1 => by
    refine ⟨G1, B.ops, args, f1.at _ fun p hp a h => mem_fpsOf.mpr ⟨p, hp, h⟩, q1.1, by simpa using d1, (F args).mono (fun r q2 v G2 H2 e2 f2 rv => ?_) q1.2⟩
    have f3 := f1.back (fpsOf_mu f1) f2
    cases r with
    | im d => exact q2.elim
    | fr ds =>
      obtain ⟨p, ws, rfl, h0, hg, hp, hd⟩ := rv
      exact q2 p ws G2 H2 (e1.trans e2) f3 (f1.free h0) hg hp hd
    | rk kvs => exact q2.elim
    | rt kvs => exact q2.elim
    | ad a => exact q2.elim) q)
/-! ### a loan: the lists in boxes as data, for one expression whose value holds no list -/
mutual
def lfree : PyData → Bool
  | .list _ => false
  | .tuple ds => lfreeAll ds
  | .dict _ => false
  | _ => true
def lfreeAll : List PyData → Bool
  | [] => true
  | d :: r => lfree d && lfreeAll r
end
def lendS : Sl → Sl
  | .lst ds => .imm (.list ds)
  | s => s
def mLend (m : Env → W PyData) : Env → W PyData := fun env => do let d ← m (env.map lendS); W.need (lfree d = true); pure d
mutual
theorem dp_hide {G G' : Hp} (h : ∀ a xs, G' a = some (.tup xs) → G a = some (.tup xs)) (h2 : ∀ a o xs, G' a = some (.frz o (.tup xs)) → G a = some (.frz o (.tup xs))) : ∀ {v : V} {d : PyData}, lfree d = true → Dp K G' v d → Dp K G v d
  | _, _, _, .non => .non
  | _, _, _, .bl b => .bl b
  | _, _, _, .int i => .int i
  | _, _, _, .str x => .str x
  | _, _, e, .lst _ _ => absurd e (by simp [lfree])
  | _, _, e, .tup t r => .tup (by
      rcases t with (t | ⟨o, t⟩) | t
      · exact .inl (.inl (h _ _ t))
      · exact .inl (.inr ⟨o, h2 _ _ _ t⟩)
      · exact .inr t) (dpa_hide h h2 (by simpa [lfree] using e) r)
theorem dpa_hide {G G' : Hp} (h : ∀ a xs, G' a = some (.tup xs) → G a = some (.tup xs)) (h2 : ∀ a o xs, G' a = some (.frz o (.tup xs)) → G a = some (.frz o (.tup xs))) : ∀ {vs : List V} {ds : List PyData}, lfreeAll ds = true → DpAll K G' vs ds → DpAll K G vs ds
  | _, _, _, .nil => .nil
  | _, _, e, .cons a r => by
    simp only [lfreeAll, Bool.and_eq_true] at e
    exact .cons (dp_hide h h2 e.1 a) (dpa_hide h h2 e.2 r)
end
end
end Z
namespace Z
variable [PoC]
open PySem PySem.Spec PyProof.Rows L2
open Evl (Ex fresh_back)
section
variable {K : PySem.W.Frag} {B : Ba} {G H : Hp} {env : Env} {σ : L2.St}
def Lent (env : Env) (σ : L2.St) (a : Addr) : Prop := ∃ i ds, gt env i = .lst ds ∧ sg σ i = some (.ref a)
open Classical in
noncomputable def G1 (B : Ba) (G : Hp) (env : Env) (σ : L2.St) : Hp := fun a => match G a with
  | some o => some o
  | none => if Lent env σ a then B.H a else none
open Classical in
noncomputable def G2 (env : Env) (σ : L2.St) (G' : Hp) : Hp := fun a => if Lent env σ a then none else G' a
theorem lent_at (ok : ROk K B G env σ H) {a : Addr} (l : Lent env σ a) : a ∉ B.mu ∧ G a = none ∧ ∃ vs, B.H a = some (.lst vs) ∧ H a = some (.lst vs) := by
  obtain ⟨i, ds, h1, h2⟩ := l
  have s := ok.sl i
  rw [h1] at s
  obtain ⟨p, vs, e1, e2, e3, e4, e5⟩ := s
  rw [h2] at e1
  cases e1
  exact ⟨e2, ok.fra.new _ (by rw [e3]; simp) e4, vs, e3, ok.fra.keep _ _ e3 e2⟩
theorem g1_ex (B : Ba) (G : Hp) (env : Env) (σ : L2.St) : Ex G (G1 B G env σ) := fun a o h => by unfold G1; rw [h]
theorem g1_lent (ok : ROk K B G env σ H) {a : Addr} (l : Lent env σ a) : ∃ vs, G1 B G env σ a = some (.lst vs) ∧ B.H a = some (.lst vs) := by
  obtain ⟨_, h1, vs, h2, _⟩ := lent_at ok l
  refine ⟨vs, ?_, h2⟩
  unfold G1
  rw [h1]
  simp only
  rw [if_pos l, h2]
theorem g1_none {a : Addr} (h : G a = none) (l : ¬ Lent env σ a) : G1 B G env σ a = none := by
  unfold G1
  rw [h]
  simp only
  rw [if_neg l]
theorem g1_cl (ok : ROk K B G env σ H) : NFz (G1 B G env σ) := fun a u h => by
  cases c : G a with
  | some v =>
    have := g1_ex B G env σ a v c
    rw [h] at this
    cases this
    exact ok.fra.cl a _ c
  | none =>
    by_cases l : Lent env σ a
    · obtain ⟨vs, h1, h2⟩ := g1_lent ok l
      rw [h1] at h
      cases h
      trivial
    · rw [g1_none c l] at h
      cases h
theorem gt_map {f : Sl → Sl} (hf : f .any = .any) (i : Nat) : gt (env.map f) i = f (gt env i) := by
  unfold gt
  rw [List.getD_eq_getElem?_getD, List.getD_eq_getElem?_getD, List.getElem?_map]
  cases env[i]? with
  | none => simp [hf]
  | some x => rfl
theorem lend_ok (ok : ROk K B G env σ H) : ROk K (bas (G1 B G env σ) H B.mu B.ops) (G1 B G env σ) (env.map lendS) σ H := by
  have e1 := g1_ex B G env σ
  refine ⟨⟨fun a o h => ?_, Ex.refl _, fun _ _ e _ => e, fun _ e => e, fun _ _ e => e, fun q hq => ⟨(ok.fra.ops q hq).1, fun a ha => ⟨?_, ((ok.fra.ops q hq).2 a ha).2⟩⟩, fun q hq a ha => q.mem H (ok.fra.ops q hq).1 a ha, ok.fra.po, ok.fra.one, (ok.fra.st.trans ok.fra.old).trans e1, g1_cl ok, fun a xs e => e1 a _ (ok.fra.tu a xs e)⟩, by simp [ok.lE], fun i => ?_⟩
  · cases c : G a with
    | some u =>
      rw [e1 a u c] at h
      cases h
      exact ok.fra.ex a o c
    | none =>
      by_cases l : Lent env σ a
      · obtain ⟨vs, h1, h2⟩ := g1_lent ok l
        rw [h1] at h
        cases h
        obtain ⟨_, _, ws, h3, h4⟩ := lent_at ok l
        rw [h2] at h3
        cases h3
        exact h4
      · rw [g1_none c l] at h
        cases h
  · refine g1_none ((ok.fra.ops q hq).2 a ha).1 fun l => ?_
    exact (lent_at ok l).1 ((ok.fra.ops q hq).2 a ha).2
  · rw [gt_map rfl]
    have s := ok.sl i
    cases e : gt env i with
    | any => exact trivial
    | imm d => rw [e] at s; exact s.elim fun v q => ⟨v, q.1, dp_ex e1 q.2⟩
    | lst ds =>
      rw [e] at s
      obtain ⟨p, vs, h1, h2, h3, h4, h5⟩ := s
      obtain ⟨ws, w1, w2⟩ := g1_lent ok ⟨i, ds, e, h1⟩
      rw [h3] at w2
      cases w2
      exact ⟨.ref p, h1, .lst (Or.inl (Or.inl w1)) (dpa_ex (ok.fra.old.trans e1) h5)⟩
    | dK kvs =>
      rw [e] at s
      obtain ⟨p, vs, h1, h2, h3, h4, h5⟩ := s
      refine ⟨p, vs, h1, h2, ok.fra.keep p _ h3 h2, g1_none (ok.fra.new p (by rw [h3]; simp) h4) fun l => ?_, kvd_ex (ok.fra.old.trans e1) h5⟩
      obtain ⟨_, _, ws, w, _⟩ := lent_at ok l
      rw [h3] at w
      cases w
    | dT kvs =>
      rw [e] at s
      obtain ⟨p, vs, h1, h2, h3, h4, h5⟩ := s
      refine ⟨p, vs, h1, h2, ok.fra.keep p _ h3 h2, g1_none (ok.fra.new p (by rw [h3]; simp) h4) fun l => ?_, kvd_ex (ok.fra.old.trans e1) h5⟩
      obtain ⟨_, _, ws, w, _⟩ := lent_at ok l
      rw [h3] at w
      cases w
    | rK k => rw [e] at s; obtain ⟨p, es, h1, h2, h3⟩ := s; exact ⟨p, es, h1, e1 _ _ h2, kvd_ex e1 h3⟩
    | rT k => rw [e] at s; obtain ⟨p, es, h1, h2, h3⟩ := s; exact ⟨p, es, h1, rd_ex e1 h2, kvd_ex e1 h3⟩
    | opq k => rw [e] at s; exact s
    | adr k => rw [e] at s; obtain ⟨v, h1, h2⟩ := s; exact ⟨v, h1, h2.ex e1⟩
theorem g2_cl {G' : Hp} (h : NFz G') : NFz (G2 env σ G') := fun a u e => by
  unfold G2 at e
  split at e
  · cases e
  · exact h a u e
theorem lend_back (ok : ROk K B G env σ H) {G' H' : Hp} (e : Ex (G1 B G env σ) G') (f : Fra (bas (G1 B G env σ) H B.mu B.ops) G' H') :
    Ex G (G2 env σ G') ∧ Fra B (G2 env σ G') H' ∧ (∀ a xs, G' a = some (.tup xs) → G2 env σ G' a = some (.tup xs)) ∧ (∀ a o xs, G' a = some (.frz o (.tup xs)) → G2 env σ G' a = some (.frz o (.tup xs))) ∧ ∀ a, G' a = none → G2 env σ G' a = none := by
  have nl : ∀ a o, G' a = some o → (∀ vs, o ≠ .lst vs) → ¬ Lent env σ a := fun a o h hn l => by
    obtain ⟨vs, w1, _⟩ := g1_lent ok l
    rw [e a _ w1] at h
    cases h
    exact hn vs rfl
  have g2 : ∀ a, ¬ Lent env σ a → G2 env σ G' a = G' a := fun a l => by unfold G2; rw [if_neg l]
  have g2n : ∀ a, G' a = none → G2 env σ G' a = none := fun a h => by
    unfold G2
    split
    · rfl
    · exact h
  have eG : Ex G (G2 env σ G') := fun a o h => by
    rw [g2 a fun l => by rw [(lent_at ok l).2.1] at h; cases h]
    exact e a o (g1_ex B G env σ a o h)
  refine ⟨eG, ⟨fun a o h => ?_, ok.fra.old.trans eG, fun a o h hn => f.keep a o (ok.fra.keep a o h hn) hn, fun a h => f.trk a (ok.fra.trk a h), fun a h hg => ?_, fun q hq => ⟨(f.ops q hq).1, fun a ha => ⟨g2n a ((f.ops q hq).2 a ha).1, ((f.ops q hq).2 a ha).2⟩⟩, ok.fra.opH, ok.fra.po, ok.fra.one, ok.fra.st, g2_cl f.cl, fun a xs h => (by rw [g2 a (nl a _ (f.tu a xs h) fun vs z => by cases z)]; exact f.tu a xs h)⟩, fun a xs h => ?_, fun a o xs h => ?_, g2n⟩
  · unfold G2 at h
    split at h
    · cases h
    · exact f.ex a o h
  · by_cases l : Lent env σ a
    · unfold G2; rw [if_pos l]
    · rw [g2 a l]
      exact f.new a (ok.fra.trk a h) (g1_none (ok.fra.new a h hg) l)
  · rw [g2 a (nl a _ h fun vs z => by cases z)]; exact h
  · rw [g2 a (nl a _ h fun vs z => by cases z)]; exact h
variable {te : TE} {m : Env → W PyData}
theorem tj_lend (h : TJ K te m) : TJ K te (mLend m) := fun B G env σ H ok Q q =>
  h _ _ _ σ H (lend_ok ok) Q ((m (env.map lendS)).mono (fun d q1 v G' H' e f dv => by
    obtain ⟨eG, fG, ht, hz, hn⟩ := lend_back ok e f
    exact q1.2 v _ H' eG fG (dp_hide ht hz q1.1 dv)) q)
def mLendL (m : Env → W (List PyData)) : Env → W (List PyData) := fun env => do let d ← m (env.map lendS); W.need (lfreeAll d = true); pure d
theorem tjl_lend {ml : Env → W (List PyData)} (h : TJL K te ml) : TJL K te (mLendL ml) := fun B G env σ H ok Q q =>
  h _ _ _ σ H (lend_ok ok) Q ((ml (env.map lendS)).mono (fun d q1 p vs G' H' e f h0 hg hp dv => by
    obtain ⟨eG, fG, ht, hz, hn⟩ := lend_back ok e f
    exact q1.2 p vs _ H' eG fG (ok.fra.free h0) (hn p hg) hp (dpa_hide ht hz q1.1 dv)) q)
def mLendT (m : Env → W Bool) : Env → W Bool := fun env => m (env.map lendS)
theorem tjt_lend {tt : TT} {mt : Env → W Bool} (h : TJT K tt mt) : TJT K tt (mLendT mt) := fun B G env σ H ok Q q =>
  h _ _ _ σ H (lend_ok ok) Q ((mt (env.map lendS)).mono (fun d q1 G' H' e f => by
    obtain ⟨eG, fG, ht, hz, hn⟩ := lend_back ok e f
    exact q1 _ H' eG fG) q)
end
end Z
namespace Z
variable [PoC]
open PySem PySem.Spec PyProof.Rows L2
open Evl (Ex fresh_back)
section
variable {K : PySem.W.Frag} {B : Ba} {G H G' H' : Hp} {fps : Fps} {env : Env} {σ : L2.St}
theorem ROk.reb (h : ROk K B G env σ H) : ROk K (bas G H (fpsOf B.ops) B.ops) G env σ H := by
  have nm : ∀ p, p ∉ B.mu → p ∉ fpsOf B.ops := fun p hp z => by
    obtain ⟨q, hq, ha⟩ := mem_fpsOf.mp z
    exact hp ((h.fra.ops q hq).2 p ha).2
  refine ⟨h.fra.at _ fun q hq a ha => mem_fpsOf.mpr ⟨q, hq, ha⟩, h.lE, fun i => ?_⟩
  have s := h.sl i
  cases e : gt env i with
  | any => exact trivial
  | imm d => rw [e] at s; exact s
  | lst ds =>
    rw [e] at s
    obtain ⟨p, vs, h1, h2, h3, h4, h5⟩ := s
    exact ⟨p, vs, h1, nm p h2, h.fra.keep p _ h3 h2, h.fra.new p (by rw [h3]; simp) h4, dpa_ex h.fra.old h5⟩
  | dK kvs =>
    rw [e] at s
    obtain ⟨p, vs, h1, h2, h3, h4, h5⟩ := s
    exact ⟨p, vs, h1, nm p h2, h.fra.keep p _ h3 h2, h.fra.new p (by rw [h3]; simp) h4, kvd_ex h.fra.old h5⟩
  | dT kvs =>
    rw [e] at s
    obtain ⟨p, vs, h1, h2, h3, h4, h5⟩ := s
    exact ⟨p, vs, h1, nm p h2, h.fra.keep p _ h3 h2, h.fra.new p (by rw [h3]; simp) h4, kvd_ex h.fra.old h5⟩
  | rK k => rw [e] at s; exact s
  | rT k => rw [e] at s; exact s
  | opq k => rw [e] at s; exact s
  | adr k => rw [e] at s; exact s
theorem Fra.backF (h : Fra B G H) (f : Fra (bas G H (fpsOf B.ops) B.ops) G' H') : Fra B G' H' := h.back (fpsOf_mu h) f
theorem ROk.put {i : Nat} {s : Sl} {o : Option V} (h : ROk K B G env σ H) (hs : SlV K B G s o) : ROk K B G (env.set i s) (σ.set i o) H := by
  refine ⟨h.fra, by simp [h.lE], fun j => ?_⟩
  rw [gt_set, sg_set, h.lE]
  by_cases c : i = j ∧ j < σ.length
  · rw [if_pos c, if_pos c]; exact hs
  · rw [if_neg c, if_neg c]; exact h.sl j
def wipeE (env : Env) : List Nat → Env
  | [] => env
  | v :: vs => (wipeE env vs).set v .any
theorem ROk.wipe (h : ROk K B G env σ H) : ∀ vs : List Nat, ROk K B G (wipeE env vs) (wipe σ vs) H
  | [] => h
  | v :: vs => (ROk.wipe h vs).put trivial
/-! ### targets -/
def TJG (K : PySem.W.Frag) (g : TG) (mg : PyData → Env → W Env) : Prop :=
  ∀ (B : Ba) (G : Hp) (fps : Fps) (env : Env) (σ : L2.St) (H : Hp) (v : V) (d : PyData), Ok K B G fps env σ H → Dp K G v d → ∀ Q : L2.St → Hp → Prop, ((mg d env).run fun e' => ∀ fps' σ', Ok K B G fps' e' σ' H → Q σ' H) → g v σ H Q
def TJGs (K : PySem.W.Frag) (g : TGs) (mg : List PyData → Env → W Env) : Prop :=
  ∀ (B : Ba) (G : Hp) (fps : Fps) (env : Env) (σ : L2.St) (H : Hp) (vs : List V) (ds : List PyData), Ok K B G fps env σ H → DpAll K G vs ds → ∀ Q : L2.St → Hp → Prop, ((mg ds env).run fun e' => ∀ fps' σ', Ok K B G fps' e' σ' H → Q σ' H) → g vs σ H Q
/-- .. within a comprehension whose own slots are ws -/
def TJGr (K : PySem.W.Frag) (ws : List Nat) (g : TG) (mg : PyData → Env → W Env) : Prop :=
  ∀ (B : Ba) (G : Hp) (env : Env) (σ : L2.St) (H : Hp) (v : V) (d : PyData), ROk K B G env σ H → Dp K G v d → ∀ Q : L2.St → Hp → Prop, ((mg d env).run fun e' => ∀ σ', ROk K B G e' σ' H → wipe σ' ws = wipe σ ws → Q σ' H) → g v σ H Q
def TJGrs (K : PySem.W.Frag) (ws : List Nat) (g : TGs) (mg : List PyData → Env → W Env) : Prop :=
  ∀ (B : Ba) (G : Hp) (env : Env) (σ : L2.St) (H : Hp) (vs : List V) (ds : List PyData), ROk K B G env σ H → DpAll K G vs ds → ∀ Q : L2.St → Hp → Prop, ((mg ds env).run fun e' => ∀ σ', ROk K B G e' σ' H → wipe σ' ws = wipe σ ws → Q σ' H) → g vs σ H Q
def nName (i : Nat) : PyData → Env → W Env := fun d env => pure (env.set i (.imm d))
def nNil : List PyData → Env → W Env := fun ds env => match ds with
  | [] => pure env
  | _ => W.fail
def nCons (m : PyData → Env → W Env) (r : List PyData → Env → W Env) : List PyData → Env → W Env := fun ds env => match ds with
  | d :: t => do let e ← m d env; r t e
  | [] => W.fail
def nTup (n : Nat) (r : List PyData → Env → W Env) : PyData → Env → W Env := fun d env => match d with
  | .tuple ds => do W.need (ds.length = n); r ds env
  | _ => W.fail
theorem tjg_name {i : Nat} : TJG K (gName i) (nName i) := fun B G fps env σ H v d ok hd Q q => q _ _ (ok.put (f := none) ⟨rfl, v, rfl, hd⟩ (fun p j h => by cases h))
theorem tjgs_nil : TJGs K gNil nNil := fun B G fps env σ H vs ds ok hd Q q => by
  cases hd with
  | nil => exact ⟨rfl, q fps σ ok⟩
  | cons _ _ => exact q.elim
theorem tjgs_cons {g : TG} {gs : TGs} {m : PyData → Env → W Env} {r : List PyData → Env → W Env} (h : TJG K g m) (hr : TJGs K gs r) : TJGs K (gCons g gs) (nCons m r) := fun B G fps env σ H vs ds ok hd Q q => by
  cases hd with
  | nil => exact q.elim
  | cons a t => exact ⟨_, _, rfl, h B G fps env σ H _ _ ok a _ ((m _ env).mono (fun e q1 fps' σ' ok' => hr B G fps' e σ' H _ _ ok' t Q q1) q)⟩
theorem tjg_tup {n : Nat} {gs : TGs} {r : List PyData → Env → W Env} (hr : TJGs K gs r) : TJG K (gTup K n gs) (nTup n r) := fun B G fps env σ H v d ok hd Q q => by
  cases d with
  | tuple ds =>
    obtain ⟨p, vs, rfl, h1, h2⟩ := dp_tup hd
    exact ⟨p, vs, rfl, ex_t ok.fra.ex h1, by rw [dpa_len h2]; exact q.1, hr B G fps env σ H vs ds ok h2 Q q.2⟩
  | _ => exact q.elim
theorem wipe_set {i : Nat} {x : Option V} : ∀ {ws : List Nat} (σ : L2.St), i ∈ ws → wipe (σ.set i x) ws = wipe σ ws
  | [], σ, h => by simp at h
  | w :: ws, σ, h => by
    simp only [L2.wipe]
    by_cases c : i ∈ ws
    · rw [wipe_set σ c]
    · have e : i = w := by simpa [c] using h
      subst e
      clear h
      have aux : ∀ (us : List Nat) (τ : L2.St), i ∉ us → wipe (τ.set i x) us = (wipe τ us).set i x := by
        intro us
        induction us with
        | nil => intro τ _; rfl
        | cons u us ih =>
          intro τ hu
          simp only [L2.wipe]
          rw [ih τ (fun z => hu (List.mem_cons_of_mem _ z)), List.set_comm _ _ (fun e => hu (by rw [e]; exact List.mem_cons_self ..))]
      rw [aux ws σ c, List.set_set]
theorem wipe_sub (σ : L2.St) (ws : List Nat) : ∀ us : List Nat, (∀ u ∈ us, u ∈ ws) → wipe (wipe σ us) ws = wipe σ ws
  | [], _ => rfl
  | u :: us, h => by
    simp only [L2.wipe]
    rw [wipe_set _ (h u (List.mem_cons_self ..)), wipe_sub σ ws us fun v hv => h v (List.mem_cons_of_mem _ hv)]
theorem wipe_idem (σ : L2.St) (ws : List Nat) : wipe (wipe σ ws) ws = wipe σ ws := wipe_sub σ ws ws fun _ h => h
theorem tjgr_name {ws : List Nat} {i : Nat} (h : i ∈ ws) : TJGr K ws (gName i) (nName i) := fun B G env σ H v d ok hd Q q => q _ (ok.put ⟨v, rfl, hd⟩) (wipe_set σ h)
theorem tjgrs_nil {ws : List Nat} : TJGrs K ws gNil nNil := fun B G env σ H vs ds ok hd Q q => by
  cases hd with
  | nil => exact ⟨rfl, q σ ok rfl⟩
  | cons _ _ => exact q.elim
theorem tjgrs_cons {ws : List Nat} {g : TG} {gs : TGs} {m : PyData → Env → W Env} {r : List PyData → Env → W Env} (h : TJGr K ws g m) (hr : TJGrs K ws gs r) : TJGrs K ws (gCons g gs) (nCons m r) := fun B G env σ H vs ds ok hd Q q => by
  cases hd with
  | nil => exact q.elim
  | cons a t => exact ⟨_, _, rfl, h B G env σ H _ _ ok a _ ((m _ env).mono (fun e q1 σ' ok' hw => hr B G e σ' H _ _ ok' t Q ((r _ e).mono (fun e2 q2 σ2 ok2 hw2 => q2 σ2 ok2 (hw2.trans hw)) q1)) q)⟩
theorem tjgr_tup {ws : List Nat} {n : Nat} {gs : TGs} {r : List PyData → Env → W Env} (hr : TJGrs K ws gs r) : TJGr K ws (gTup K n gs) (nTup n r) := fun B G env σ H v d ok hd Q q => by
  cases d with
  | tuple ds =>
    obtain ⟨p, vs, rfl, h1, h2⟩ := dp_tup hd
    exact ⟨p, vs, rfl, ex_t ok.fra.ex h1, by rw [dpa_len h2]; exact q.1, hr B G env σ H vs ds ok h2 Q q.2⟩
  | _ => exact q.elim
/-! ### what is walked -/
structure WalkD (K : PySem.W.Frag) (J : It) (ds : List PyData) (G0 : Hp) : Prop where
  goes : ∀ i H, i < ds.length → Ex G0 H → J.go i H
  stops : ∀ H, Ex G0 H → J.stop ds.length H
  yields : ∀ i G H x H', i < ds.length → Ex G0 G → Ex G H → J.yld i H x H' → ∃ G' d, Stp G H G' H' ∧ ds[i]? = some d ∧ Dp K G' x d
def TJI (K : PySem.W.Frag) (wi : TI) (mi : Env → W (List PyData)) : Prop :=
  ∀ (B : Ba) (G : Hp) (env : Env) (σ : L2.St) (H : Hp), ROk K B G env σ H → ∀ R : It → Hp → Prop, ((mi env).run fun ds => ∀ J G' H', Ex G G' → Fra B G' H' → WalkD K J ds G' → R J H') → wi σ H R
def iSeqZ (K : PySem.W.Frag) (tl : TE) : TI := fun σ H R => tl σ H fun x H1 => (∃ a, x = .ref a ∧ (∃ xs, SqL K H1 a xs) ∧ R (Itl K a) H1) ∨ (∃ a, x = .ref a ∧ (∃ xs, SqT K H1 a xs) ∧ R (Itt K a) H1) ∨ ∃ z, x = .str z ∧ R (Its z) H1
theorem pi_seqZ {X : Cx} {tg l : Expr} {tl : TE} (hl : PE X l tl) : PI X tg l (iSeqZ X.K tl) := by
  refine ⟨fun pins s σ H R I h => ?_⟩
  refine thn (hl.run pins s σ H _ I h) fun v s1 ⟨x, H1, I1, r1, q1⟩ => ?_
  rcases q1 with ⟨a, e, ⟨xs, hq⟩, q⟩ | ⟨a, e, ⟨xs, hq⟩, q⟩ | ⟨z, e, q⟩
  · subst e
    cases r1
    obtain ⟨its, rv, p, hz⟩ := I1.list hq
    refine wpAny_pyIter_list p.isList ?_
    refine ⟨s1.heap.objs.size, [s1.heap.objs.size], _, _, H1, rfl, I1.kept (t' := s1.toks) fun b o e => Heap.get?_push_of_some _ e, turn_list a _, ⟨_, Heap.get?_push_size _ rfl, rfl, rfl⟩, fun b hb => ?_, q⟩
    have e : b = s1.heap.objs.size := by simpa using hb
    subst e
    exact I1.fpOk (Nat.le_refl _) (I1.hok.fresh (Nat.le_refl _))
  · subst e
    cases r1
    obtain ⟨its, rv, p, hz⟩ := I1.tuple hq
    refine wpAny_pyIter_tuple (show s1.heap.IsTuple a its.toArray from p) ?_
    refine ⟨s1.heap.objs.size, [s1.heap.objs.size], _, _, H1, rfl, I1.kept (t' := s1.toks) fun b o e => Heap.get?_push_of_some _ e, turn_tuple a _, ⟨_, Heap.get?_push_size _ rfl, rfl, rfl⟩, fun b hb => ?_, q⟩
    have e : b = s1.heap.objs.size := by simpa using hb
    subst e
    exact I1.fpOk (Nat.le_refl _) (I1.hok.fresh (Nat.le_refl _))
  · subst e
    obtain ⟨t, rfl⟩ := r1
    cases ha : z.cps.all (· < 128)
    · exact wpAny_pyIter_wide ha (pi_one (tk := s1.toks) I1 _ (turn_str _ z t "str_iterator" (.inr rfl)) ⟨_, Heap.get?_push_size _ rfl, rfl, rfl⟩ q)
    · exact wpAny_pyIter_ascii ha (pi_one (tk := s1.toks) I1 _ (turn_str _ z t "str_ascii_iterator" (.inl rfl)) ⟨_, Heap.get?_push_size _ rfl, rfl, rfl⟩ q)
def signsD (z : Str) : List PyData := z.cps.toList.map fun c => .str ⟨#[c]⟩
def seqD : PyData → W (List PyData)
  | .list ds => pure ds
  | .tuple ds => pure ds
  | .str z => pure (signsD z)
  | _ => W.fail
def mSeqI (m : Env → W PyData) : Env → W (List PyData) := fun env => do seqD (← m env)
theorem walkD_list {a : Addr} {vs : List V} {ds : List PyData} (h : SqL K0 G a vs) (hd : DpAll K G vs ds) : WalkD K (Itl K a) ds G where
  goes i H hi e := ⟨vs, vs[i]'(by rw [dpa_len hd]; exact hi), ex_l e h, List.getElem?_eq_getElem _⟩
  stops H e := ⟨vs, ex_l e h, by rw [dpa_len hd]; exact Nat.le_refl _⟩
  yields i G' H x H' hi e1 e2 y := by
    obtain ⟨rfl, y⟩ := y
    obtain ⟨d, h1, h2⟩ := dpa_get2 hd (y vs (ex_l (e1.trans e2) h))
    exact ⟨G', d, .same, h1, dp_ex e1 h2⟩
theorem walkD_tup {a : Addr} {vs : List V} {ds : List PyData} (h : SqT K0 G a vs) (hd : DpAll K G vs ds) : WalkD K (Itt K a) ds G where
  goes i H hi e := ⟨vs, vs[i]'(by rw [dpa_len hd]; exact hi), ex_t e h, List.getElem?_eq_getElem _⟩
  stops H e := ⟨vs, ex_t e h, by rw [dpa_len hd]; exact Nat.le_refl _⟩
  yields i G' H x H' hi e1 e2 y := by
    obtain ⟨rfl, y⟩ := y
    obtain ⟨d, h1, h2⟩ := dpa_get2 hd (y vs (ex_t (e1.trans e2) h))
    exact ⟨G', d, .same, h1, dp_ex e1 h2⟩
theorem walkD_str {z : Str} : WalkD K (Its z) (signsD z) G where
  goes i H hi e := by show i < z.cps.size; simpa [signsD] using hi
  stops H e := by show z.cps.size ≤ _; simp [signsD]
  yields i G' H x H' hi e1 e2 y := by
    obtain ⟨rfl, c, y, rfl⟩ := y
    exact ⟨G', .str ⟨#[c]⟩, .same, by simp [signsD, y], .str _⟩
theorem tji_seq {tl : TE} {m : Env → W PyData} (h : TJ K tl m) : TJI K (iSeqZ K tl) (mSeqI m) := fun B G env σ H ok R q =>
  h B G env σ H ok _ ((m env).mono (fun d q1 v G1 H1 e1 f1 d1 => by
    cases d with
    | list ds =>
      obtain ⟨p, vs, rfl, h1, h2⟩ := dp_lst d1
      exact .inl ⟨p, rfl, ⟨vs, ex_l f1.ex h1⟩, q1 _ G1 H1 e1 f1 (walkD_list h1 h2)⟩
    | tuple ds =>
      obtain ⟨p, vs, rfl, h1, h2⟩ := dp_tup d1
      exact .inr (.inl ⟨p, rfl, ⟨vs, ex_t f1.ex h1⟩, q1 _ G1 H1 e1 f1 (walkD_tup h1 h2)⟩)
    | str z => cases d1; exact .inr (.inr ⟨z, rfl, q1 _ G1 H1 e1 f1 walkD_str⟩)
    | _ => exact q1.elim) q)
def rgD (lo : Int) (n : Nat) : List PyData := (List.range n).map fun i => .int (lo + (i : Nat))
theorem walkD_rng {lo : Int} {n : Nat} : WalkD K (Itr lo n) (rgD lo n) G where
  goes i H hi e := by show i < n; simpa [rgD] using hi
  stops H e := by show n ≤ _; simp [rgD]
  yields i G' H x H' hi e1 e2 y := by
    obtain ⟨rfl, rfl⟩ := y
    have hn : i < n := by simpa [rgD] using hi
    exact ⟨G', .int (lo + (i : Nat)), .same, by simp [rgD, hn], .int _⟩
def rng1 : List PyData → W (List PyData)
  | [.int j] => do W.need (-(2 ^ 62) ≤ j ∧ j < 2 ^ 62); pure (rgD 0 j.toNat)
  | _ => W.fail
def rng2 : List PyData → W (List PyData)
  | [.int i, .int j] => do W.need (-(2 ^ 62) ≤ i ∧ i < 2 ^ 62 ∧ -(2 ^ 62) ≤ j ∧ j < 2 ^ 62); pure (rgD i (j - i).toNat)
  | _ => W.fail
def mRng (f : List PyData → W (List PyData)) (md : Env → W (List PyData)) : Env → W (List PyData) := fun env => do f (← md env)
theorem tji_rng1 {ta : TA} {md : Env → W (List PyData)} (h : TJD K ta md) : TJI K (iRng1 ta) (mRng rng1 md) := fun B G env σ H ok R q =>
  h B G env σ H ok _ ((md env).mono (fun ds q1 vs G1 H1 e1 f1 d1 => by
    match ds, d1, q1 with
    | [.int j], d1, q1 =>
      obtain ⟨v, rfl, hv⟩ := dpa_one d1
      cases hv
      exact ⟨j, rfl, q1.1.1, q1.1.2, q1.2 _ G1 H1 e1 f1 walkD_rng⟩) q)
theorem tji_rng2 {ta : TA} {md : Env → W (List PyData)} (h : TJD K ta md) : TJI K (iRng2 ta) (mRng rng2 md) := fun B G env σ H ok R q =>
  h B G env σ H ok _ ((md env).mono (fun ds q1 vs G1 H1 e1 f1 d1 => by
    match ds, d1, q1 with
    | [.int i, .int j], d1, q1 =>
      obtain ⟨v, w, rfl, hv, hw⟩ := dpa_two d1
      cases hv; cases hw
      exact ⟨i, j, rfl, q1.1, q1.2 _ G1 H1 e1 f1 walkD_rng⟩) q)
/-! ### comprehensions -/
def lcM (mg : PyData → Env → W Env) (mt : Env → W Bool) (me : Env → W PyData) (env : Env) : List PyData → W (List PyData)
  | [] => pure []
  | d :: r => do
    let e1 ← mg d env
    if (← mt e1) = true then (do let y ← me e1; let rest ← lcM mg mt me env r; pure (y :: rest)) else lcM mg mt me env r
def mLc (ws : List Nat) (mi : Env → W (List PyData)) (mg : PyData → Env → W Env) (mt : Env → W Bool) (me : Env → W PyData) : Env → W (List PyData) := fun env => do
  let ds ← mi env
  W.need (ds.length ≤ sizeLine)
  lcM mg mt me (wipeE env ws) ds
def mYes : Env → W Bool := fun _ => pure true
theorem tjt_yes : TJT K tYes mYes := fun B G env σ H ok Q q => q G H (Ex.refl _) ok.fra
theorem tjl_lc {wi : TI} {g : TG} {tt : TT} {te : TE} {ws : List Nat} {mi : Env → W (List PyData)} {mg : PyData → Env → W Env} {mt : Env → W Bool} {me : Env → W PyData} (hi : TJI K wi mi) (hg : TJGr K ws g mg) (ht : TJT K tt mt) (he : TJ K te me) :
    TJL K (tLc wi g tt te ws) (mLc ws mi mg mt me) := fun B G env σ H ok Q q =>
  hi B G env σ H ok _ ((mi env).mono (fun ds q1 J G1 H1 e1 f1 wk D hD => by
    obtain ⟨hz, q1⟩ := q1
    have hb : B.H D = none := f1.free hD
    have hno : ∀ p ∈ B.ops, D ∉ p.fp := fun p hp z => f1.opH p hp D z hb
    refine ⟨fun i m H => m = ds.length - i ∧ i ≤ ds.length ∧ ∃ Gi acc ads, Ex G1 Gi ∧ Fra B Gi H ∧ H D = some (.lst acc) ∧ Gi D = none ∧ DpAll K Gi acc ads ∧ acc.length ≤ i ∧
      (lcM mg mt me (wipeE env ws) (ds.drop i)).run fun rest => ∀ p vs G' H', Ex G G' → Fra B G' H' → B.H p = none → G' p = none → H' p = some (.lst vs) → DpAll K G' vs (ads ++ rest) → Q (.ref p) H',
      ⟨ds.length, rfl, Nat.zero_le _, G1, [], [], Ex.refl _, f1.lay hD, upd_same, fresh_back f1.ex hD, .nil, Nat.zero_le _, q1⟩, ?_⟩
    rintro i m H2 ⟨rfl, hi2, Gi, acc, ads, eGi, fi, hDa, hGD, hda, hal, hrun⟩
    rcases Nat.lt_or_ge i ds.length with hlt | hge
    · refine .inr ⟨wk.goes i H2 hlt (eGi.trans fi.ex), fun H' => ∃ Gi acc ads, Ex G1 Gi ∧ Fra B Gi H' ∧ H' D = some (.lst acc) ∧ Gi D = none ∧ DpAll K Gi acc ads ∧ acc.length ≤ i + 1 ∧
        (lcM mg mt me (wipeE env ws) (ds.drop (i + 1))).run fun rest => ∀ p vs G' H', Ex G G' → Fra B G' H' → B.H p = none → G' p = none → H' p = some (.lst vs) → DpAll K G' vs (ads ++ rest) → Q (.ref p) H',
        fun H' h => ⟨ds.length - (i + 1), by omega, rfl, hlt, h⟩, fun x H3 hy => ?_⟩
      obtain ⟨G3, d, st, hd, dx⟩ := wk.yields i Gi H2 x H3 hlt eGi fi.ex hy
      obtain ⟨f3, e3⟩ := st.fra fi
      have hD3 : H3 D = some (.lst acc) ∧ G3 D = none := by
        cases st with
        | same => exact ⟨hDa, hGD⟩
        | new hp =>
          have ne : D ≠ _ := ne_fr (H := H2) (by rw [hDa]; simp) hp
          exact ⟨by rw [upd_ne ne]; exact hDa, by rw [upd_ne ne]; exact hGD⟩
      rw [List.drop_eq_getElem_cons hlt, (List.getElem?_eq_some_iff.mp hd).2] at hrun
      have hne : H3 D ≠ none := by rw [hD3.1]; simp
      have okr : ROk K (bas G3 H3 (fpsOf B.ops) B.ops) G3 (wipeE env ws) (wipe σ ws) H3 := ((ok.go ((e1.trans eGi).trans e3) f3).wipe ws).reb
      have hDm : D ∉ fpsOf B.ops := fun z => (mem_fpsOf.mp z).elim fun p w => hno p w.1 w.2
      refine hg _ G3 _ _ H3 x d okr dx _ (W.mono _ (fun ev q2 σ' ok' hw => ⟨by rw [hw]; exact wipe_idem σ ws, ?_⟩) hrun)
      refine ht _ G3 ev σ' H3 ok' _ (W.mono _ (fun b q3 G4 H4 e4 f4 => ?_) q2)
      have hD4 : H4 D = some (.lst acc) := f4.keep D _ hD3.1 hDm
      have gD4 : G4 D = none := f4.new D hne hD3.2
      cases b with
      | false => exact ⟨G4, acc, ads, (eGi.trans e3).trans e4, f3.backF f4, hD4, gD4, dpa_ex (e3.trans e4) hda, by omega, q3⟩
      | true =>
        refine he _ G4 ev σ' H4 (ok'.go e4 f4) _ (W.mono _ (fun y q4 v G5 H5 e5 f5 d5 => ?_) q3)
        have hD5 : H5 D = some (.lst acc) := f5.keep D _ hD3.1 hDm
        have gD5 : G5 D = none := f5.new D hne hD3.2
        refine ⟨acc, hD5, by omega, G5, acc ++ [v], ads ++ [y], ((eGi.trans e3).trans e4).trans e5, (f3.backF f5).wr ⟨gD5, .inr hb, hno⟩ (fun _ _ z => by rw [hD5] at z; cases z), upd_same, gD5, dpa_app (dpa_ex ((e3.trans e4).trans e5) hda) (.cons d5 .nil), by simp; omega, ?_⟩
        refine W.mono _ (fun rest q5 => ?_) q4
        simpa [List.append_assoc] using q5
    · have hi3 : i = ds.length := by omega
      subst hi3
      rw [List.drop_eq_nil_of_le (Nat.le_refl _)] at hrun
      refine .inl ⟨wk.stops H2 (eGi.trans fi.ex), ?_⟩
      have := hrun D acc Gi H2 (e1.trans eGi) fi hb hGD hDa (by simpa using hda)
      exact this) q)
end
end Z
namespace Z
variable [PoC]
open PySem PySem.Spec PyProof.Rows L2
open Evl (Ex fresh_back)
abbrev Ms := Env → W (Fl × Env)
abbrev Tight : Ba → Prop := fun B => B.mu = fpsOf B.ops
def FlOk (K : PySem.W.Frag) (B : Ba) (D : Ends) (fl : Fl) (G : Hp) (σ : L2.St) (H : Hp) : Prop :=
  match fl with
  | .nx => D.nx σ H
  | .bk => D.bk σ H
  | .ct => D.ct σ H
  | .rt r => ∀ v, RvOk K B.H G H v r → D.rt v H
def TJS (M : Ba → Prop) (K : PySem.W.Frag) (tu : TS) (ms : Ms) : Prop :=
  ∀ (B : Ba) (G : Hp) (fps : Fps) (env : Env) (σ : L2.St) (H : Hp), Ok K B G fps env σ H → M B → ∀ D : Ends,
    ((ms env).run fun r => ∀ G' fps' σ' H', Ex G G' → Ok K B G' fps' r.2 σ' H' → FlOk K B D r.1 G' σ' H') → tu D σ H
section
variable {M : Ba → Prop} {K : PySem.W.Frag} {te ta tb : TE} {m ma mb : Env → W PyData} {ml : Env → W (List PyData)} {tu tv : TS} {mu mv : Ms}
section
variable {B : Ba} {G H : Hp} {fps : Fps} {env : Env} {σ : L2.St}
theorem Ok.ev (ok : Ok K B G fps env σ H) (h : TJ K te m) {Q : VK} (q : (m env).run fun d => ∀ v G' H', Ex G G' → Ok K B G' fps env σ H' → Dp K G' v d → Q v H') : te σ H Q :=
  h _ G env σ H ok.view Q ((m env).mono (fun d k v G' H' e f dv => k v G' H' e (ok.back f) dv) q)
theorem Ok.evL (ok : Ok K B G fps env σ H) (h : TJL K te ml) {Q : VK}
    (q : (ml env).run fun ds => ∀ p vs G' H', Ex G G' → Ok K B G' fps env σ H' → H p = none → G' p = none → H' p = some (.lst vs) → DpAll K G' vs ds → Q (.ref p) H') : te σ H Q :=
  h _ G env σ H ok.view Q ((ml env).mono (fun ds k p vs G' H' e f h0 hg hp dv => k p vs G' H' e (ok.back f) h0 hg hp dv) q)
theorem Ok.evT (ok : Ok K B G fps env σ H) {tt : TT} {mt : Env → W Bool} (h : TJT K tt mt) {Q : Bool → Hp → Prop} (q : (mt env).run fun b => ∀ G' H', Ex G G' → Ok K B G' fps env σ H' → Q b H') : tt σ H Q :=
  h _ G env σ H ok.view Q ((mt env).mono (fun b k G' H' e f => k G' H' e (ok.back f)) q)
theorem Ok.boxP (ok : Ok K B G fps env σ H) {p : Addr} (h0 : H p = none) (hg : G p = none) : BoxP B G p := ⟨hg, .inr (ok.fra.free h0), fun q hq ha => ok.fra.opH q hq p ha (ok.fra.free h0)⟩
theorem Ok.fps_ne (ok : Ok K B G fps env σ H) {p : Addr} (h0 : H p = none) (i : Nat) : fg fps i ≠ some p := fun e => ((ok.sl i).box e).2.1 h0
end
def mNx (f : Env → Env) : Ms := fun env => pure (.nx, f env)
def sAsg (i : Nat) (m : Env → W PyData) : Ms := fun env => do let d ← m env; pure (.nx, env.set i (.imm d))
theorem tjs_asg {i : Nat} (h : TJ K te m) : TJS M K (tAsg te (gName i)) (sAsg i m) := fun B G fps env σ H ok hm D q =>
  ok.ev h ((m env).mono (fun d k v G' H' e ok' dv => k G' _ _ H' e (ok'.put (i := i) (f := none) (s := .imm d) (o := some v) ⟨rfl, v, rfl, dv⟩ (fun p j z => by cases z))) q)
def sAsgG (mg : PyData → Env → W Env) (m : Env → W PyData) : Ms := fun env => do let d ← m env; let e ← mg d env; pure (.nx, e)
theorem tjs_asgG {g : TG} {mg : PyData → Env → W Env} (h : TJ K te m) (hg : TJG K g mg) : TJS M K (tAsg te g) (sAsgG mg m) := fun B G fps env σ H ok hm D q =>
  ok.ev h ((m env).mono (fun d k v G' H' e ok' dv => hg B G' fps env σ H' v d ok' dv _ ((mg d env).mono (fun e2 k2 fps' σ' ok2 => k2 G' fps' σ' H' e ok2) k)) q)
def sAsgL (i : Nat) (ml : Env → W (List PyData)) : Ms := fun env => do let ds ← ml env; pure (.nx, env.set i (.lst ds))
theorem tjs_asgL {i : Nat} (h : TJL K te ml) : TJS M K (tAsg te (gName i)) (sAsgL i ml) := fun B G fps env σ H ok hm D q =>
  ok.evL h ((ml env).mono (fun ds k p vs G' H' e ok' h0 hg hp dv => k G' _ _ H' e (ok'.put (i := i) (f := some p) (s := .lst ds) (o := some (.ref p))
    ⟨p, vs, rfl, rfl, ⟨hg, .inr (ok.fra.free h0), fun q hq ha => ok.fra.opH q hq p ha (ok.fra.free h0)⟩, hp, dv⟩ (fun p' j z hj => by cases z; exact absurd hj (ok.fps_ne h0 j)))) q)
def sNewK (i : Nat) : Ms := mNx fun env => env.set i (.dK [])
theorem tjs_newK {i : Nat} : TJS M K (tAsg tDNewK (gName i)) (sNewK i) := fun B G fps env σ H ok hm D q p h0 =>
  q G _ _ _ (Ex.refl _) ((ok.lay h0).put (i := i) (f := some p) (s := .dK []) (o := some (.ref p)) ⟨p, [], rfl, rfl, ok.boxP h0 (fresh_back ok.fra.ex h0), upd_same, .nil⟩ (fun p' j z hj => by cases z; exact absurd hj (ok.fps_ne h0 j)))
def sNewT (i : Nat) : Ms := mNx fun env => env.set i (.dT [])
theorem tjs_newT {i : Nat} : TJS M K (tAsg tDNewT (gName i)) (sNewT i) := fun B G fps env σ H ok hm D q p h0 =>
  q G _ _ _ (Ex.refl _) ((ok.lay h0).put (i := i) (f := some p) (s := .dT []) (o := some (.ref p)) ⟨p, [], rfl, rfl, ok.boxP h0 (fresh_back ok.fra.ex h0), upd_same, .nil⟩ (fun p' j z hj => by cases z; exact absurd hj (ok.fps_ne h0 j)))
/-! blocks -/
def sNil : Ms := mNx id
theorem tjs_nil : TJS M K tNext sNil := fun B G fps env σ H ok hm D q => q G fps σ H (Ex.refl _) ok
def sSeq (a b : Ms) : Ms := fun env => do
  let r ← a env
  match r.1 with
  | .nx => b r.2
  | fl => pure (fl, r.2)
theorem tjs_seq (h1 : TJS M K tu mu) (h2 : TJS M K tv mv) : TJS M K (tSeq tu tv) (sSeq mu mv) := fun B G fps env σ H ok hm D q =>
  h1 B G fps env σ H ok hm _ ((mu env).mono (fun r k G' fps' σ' H' e ok' => by
    obtain ⟨fl, e1⟩ := r
    cases fl with
    | nx => exact h2 B G' fps' e1 σ' H' ok' hm D ((mv e1).mono (fun r2 k2 G2 fps2 σ2 H2 e2 ok2 => k2 G2 fps2 σ2 H2 (e.trans e2) ok2) k)
    | bk => exact k G' fps' σ' H' e ok'
    | ct => exact k G' fps' σ' H' e ok'
    | rt v => exact k G' fps' σ' H' e ok') q)
def sBreak : Ms := fun env => pure (.bk, env)
def sCont : Ms := fun env => pure (.ct, env)
theorem tjs_break : TJS M K tBreak sBreak := fun B G fps env σ H ok hm D q => q G fps σ H (Ex.refl _) ok
theorem tjs_cont : TJS M K tCont sCont := fun B G fps env σ H ok hm D q => q G fps σ H (Ex.refl _) ok
theorem tjs_never : TJS M K tNever (fun _ => W.fail) := fun B G fps env σ H ok hm D q => q
def sIf (mt : Env → W Bool) (a b : Ms) : Ms := fun env => do if (← mt env) = true then a env else b env
theorem tjs_if {tt : TT} {mt : Env → W Bool} (ht : TJT K tt mt) (h1 : TJS M K tu mu) (h2 : TJS M K tv mv) : TJS M K (tIfS tt tu tv) (sIf mt mu mv) := fun B G fps env σ H ok hm D q =>
  ok.evT ht ((mt env).mono (fun b k G' H' e ok' => by
    cases b with
    | true => exact h1 B G' fps env σ H' ok' hm D ((mu env).mono (fun r2 k2 G2 fps2 σ2 H2 e2 ok2 => k2 G2 fps2 σ2 H2 (e.trans e2) ok2) k)
    | false => exact h2 B G' fps env σ H' ok' hm D ((mv env).mono (fun r2 k2 G2 fps2 σ2 H2 e2 ok2 => k2 G2 fps2 σ2 H2 (e.trans e2) ok2) k)) q)
def sRet (m : Env → W PyData) : Ms := fun env => do let d ← m env; pure (.rt (.im d), env)
theorem tjs_ret (h : TJ K te m) : TJS M K (tRet te) (sRet m) := fun B G fps env σ H ok hm D q =>
  ok.ev h ((m env).mono (fun d k v G' H' e ok' dv => k G' fps σ H' e ok' v dv) q)
def sRetN : Ms := fun env => pure (.rt (.im .none), env)
theorem tjs_retN : TJS M K tRetN sRetN := fun B G fps env σ H ok hm D q => q G fps σ H (Ex.refl _) ok _ .non
def sRetL (ml : Env → W (List PyData)) : Ms := fun env => do let d ← ml env; pure (.rt (.fr d), env)
theorem tjs_retL (h : TJL K te ml) : TJS M K (tRet te) (sRetL ml) := fun B G fps env σ H ok hm D q =>
  ok.evL h ((ml env).mono (fun d k p vs G' H' e ok' h0 hg hp dv => k G' fps σ H' e ok' _ ⟨p, vs, rfl, ok.fra.free h0, hg, hp, dv⟩) q)
def sRetB (i : Nat) : Ms := fun env => match gt env i with
  | .lst ds => pure (.rt (.fr ds), env)
  | _ => W.fail
theorem tjs_retB {i : Nat} : TJS Tight K (tRet (tVar i)) (sRetB i) := fun B G fps env σ H ok hm D q => by
  have s := ok.sl i
  unfold sRetB at q
  cases e : gt env i with
  | lst ds =>
    rw [e] at s q
    obtain ⟨p, vs, h1, h2, h3, h4, h5⟩ := s
    refine ⟨_, sg_some h2, q G fps σ H (Ex.refl _) ok _ ⟨p, vs, rfl, ?_, h3.1, h4, h5⟩⟩
    rcases h3.2.1 with z | z
    · rw [hm] at z
      obtain ⟨o, ho, ha⟩ := mem_fpsOf.mp z
      exact absurd ha (h3.2.2 o ho)
    · exact z
  | _ => rw [e] at q; exact q.elim
def sRetR (i : Nat) : Ms := fun env => match gt env i with
  | .rK kvs => pure (.rt (.rk kvs), env)
  | .rT kvs => pure (.rt (.rt kvs), env)
  | _ => W.fail
theorem tjs_retR {i : Nat} : TJS M K (tRet (tVar i)) (sRetR i) := fun B G fps env σ H ok hm D q => by
  have s := ok.sl i
  unfold sRetR at q
  cases e : gt env i with
  | rK kvs =>
    rw [e] at s q
    obtain ⟨_, p, es, h1, h2, h3⟩ := s
    exact ⟨_, sg_some h1, q G fps σ H (Ex.refl _) ok _ ⟨p, es, rfl, h2, h3⟩⟩
  | rT kvs =>
    rw [e] at s q
    obtain ⟨_, p, es, h1, h2, h3⟩ := s
    exact ⟨_, sg_some h1, q G fps σ H (Ex.refl _) ok _ ⟨p, es, rfl, h2, h3⟩⟩
  | _ => rw [e] at q; exact q.elim
def sDrop (m : Env → W PyData) : Ms := fun env => do let _ ← m env; pure (.nx, env)
theorem tjs_drop (h : TJ K te m) : TJS M K (tDrop te) (sDrop m) := fun B G fps env σ H ok hm D q =>
  ok.ev h ((m env).mono (fun d k v G' H' e ok' dv => k G' fps σ H' e ok') q)
/-! boxes change -/
section
variable {B : Ba} {G H : Hp} {fps : Fps} {env : Env} {σ : L2.St}
theorem Ok.lstAt (ok : Ok K B G fps env σ H) {i : Nat} {ds : List PyData} (e : gt env i = .lst ds) : ∃ p vs, fg fps i = some p ∧ sg σ i = some (.ref p) ∧ BoxP B G p ∧ H p = some (.lst vs) ∧ DpAll K G vs ds := by
  have s := ok.sl i
  rw [e] at s
  exact s
/-- the box of slot i changes -/
theorem Ok.wrB (ok : Ok K B G fps env σ H) {i : Nat} {p : Addr} {o : HO} {s : Sl} (hf : fg fps i = some p) (hs : SlOk K B G (upd H p o) (some p) s (some (.ref p))) : Ok K B G fps (env.set i s) σ (upd H p o) := by
  obtain ⟨b, nn, hr⟩ := (ok.sl i).box hf
  have hi : i < σ.length := by
    rcases Nat.lt_or_ge i σ.length with h | h
    · exact h
    · have : sg σ i = none := getD_out σ i none h
      rw [this] at hr; cases hr
  have ho : NT o := by
    cases s with
    | lst ds => obtain ⟨p', vs, h1, h2, h3, h4, h5⟩ := hs; cases h1; rw [upd_same] at h4; cases h4; trivial
    | dK ds => obtain ⟨p', vs, h1, h2, h3, h4, h5⟩ := hs; cases h1; rw [upd_same] at h4; cases h4; trivial
    | dT ds => obtain ⟨p', vs, h1, h2, h3, h4, h5⟩ := hs; cases h1; rw [upd_same] at h4; cases h4; trivial
    | any => cases hs
    | imm d => cases hs.1
    | opq k => cases hs.1
    | adr k => cases hs.1
    | rK k => cases hs.1
    | rT k => cases hs.1
  refine ⟨ok.fra.wr b ((ok.sl i).noFrz hf) ho, by simp [ok.lE], ok.lF, fun j => ?_, ok.dis⟩
  rw [gt_set, ok.lE]
  by_cases c : i = j
  · subst c
    rw [if_pos ⟨rfl, hi⟩, hf, hr]
    exact hs
  · rw [if_neg (fun z => c z.1)]
    exact (ok.sl j).mono (Ex.refl _) (fun q hq b => b) (fun q hq => upd_ne fun z => c (ok.dis i j p hf (z ▸ hq)))
end
def asL : Sl → W (List PyData)
  | .lst ds => pure ds
  | _ => W.fail
def sApp (i : Nat) (m : Env → W PyData) : Ms := fun env => do
  let ds ← asL (gt env i)
  let d ← m env
  W.need (ds.length < sizeLine)
  pure (.nx, env.set i (.lst (ds ++ [d])))
theorem tyV_lst {p : Addr} {vs : List V} {H : Hp} (h : H p = some (.lst vs)) : tyV K "list" (.ref p) H := .inl ⟨rfl, vs, .inl (.inl h)⟩
theorem asL_run {s : Sl} {Q : List PyData → Prop} (h : (asL s).run Q) : ∃ ds, s = .lst ds ∧ Q ds := by
  cases s with
  | lst ds => exact ⟨ds, rfl, h⟩
  | _ => exact h.elim
theorem tjs_app {i : Nat} (h : TJ K te m) : TJS M K (tDrop (tBM K "list" rAppend (tVar i) (tCons te tNil))) (sApp i m) := fun B G fps env σ H ok hm D q => by
  obtain ⟨ds, hg, q⟩ := asL_run q
  obtain ⟨p, vs, h1, h2, h3, h4, h5⟩ := ok.lstAt hg
  refine ⟨_, sg_some h2, tyV_lst h4, ok.ev h ((m env).mono (fun d k v G' H' e ok' dv => ?_) q)⟩
  obtain ⟨p', vs', h1', h2', h3', h4', h5'⟩ := ok'.lstAt hg
  rw [h1] at h1'
  cases h1'
  exact ⟨p, vs', v, rfl, rfl, h4', by rw [dpa_len h5']; exact k.1, k.2 G' fps σ _ e (ok'.wrB h1 ⟨p, _, rfl, rfl, h3', upd_same, dpa_app h5' (.cons dv .nil)⟩)⟩
def asSeq : PyData → W (List PyData)
  | .list ds => pure ds
  | .tuple ds => pure ds
  | _ => W.fail
def sExt (i : Nat) (m : Env → W PyData) : Ms := fun env => do
  let ds ← asL (gt env i)
  let es ← asSeq (← m env)
  W.need (ds.length + es.length ≤ sizeLine)
  pure (.nx, env.set i (.lst (ds ++ es)))
theorem tjs_ext {i : Nat} (h : TJ K te m) : TJS M K (tDrop (tBM K "list" (rExtZ K) (tVar i) (tCons te tNil))) (sExt i m) := fun B G fps env σ H ok hm D q => by
  obtain ⟨ds, hg, q⟩ := asL_run q
  obtain ⟨p, vs, h1, h2, h3, h4, h5⟩ := ok.lstAt hg
  refine ⟨_, sg_some h2, tyV_lst h4, ok.ev h ((m env).mono (fun d k v G' H' e ok' dv => ?_) q)⟩
  obtain ⟨p', vs', h1', h2', h3', h4', h5'⟩ := ok'.lstAt hg
  rw [h1] at h1'
  cases h1'
  cases d with
  | list es =>
    obtain ⟨b, ws, rfl, w1, w2⟩ := dp_lst dv
    exact ⟨p, b, vs', ws, rfl, rfl, h4', .inl (ex_l ok'.fra.ex w1), by rw [dpa_len h5', dpa_len w2]; exact k.1, k.2 G' fps σ _ e (ok'.wrB h1 ⟨p, _, rfl, rfl, h3', upd_same, dpa_app h5' w2⟩)⟩
  | tuple es =>
    obtain ⟨b, ws, rfl, w1, w2⟩ := dp_tup dv
    exact ⟨p, b, vs', ws, rfl, rfl, h4', .inr (ex_t ok'.fra.ex w1), by rw [dpa_len h5', dpa_len w2]; exact k.1, k.2 G' fps σ _ e (ok'.wrB h1 ⟨p, _, rfl, rfl, h3', upd_same, dpa_app h5' w2⟩)⟩
  | _ => exact k.elim
/-- x = xs.pop() -/
def sPop (j i : Nat) : Ms := fun env => do
  let ds ← asL (gt env i)
  match ds.getLast? with
  | some d => pure (.nx, (env.set i (.lst ds.dropLast)).set j (.imm d))
  | none => W.fail
theorem dpa_dropLast {G : Hp} {vs : List V} {ds : List PyData} (h : DpAll K G vs ds) : DpAll K G vs.dropLast ds.dropLast := by
  rw [List.dropLast_eq_take, List.dropLast_eq_take, dpa_len h]
  exact dpa_take _ h
theorem tjs_pop {i j : Nat} : TJS M K (tAsg (tBM0 K "list" rPop (tVar i)) (gName j)) (sPop j i) := fun B G fps env σ H ok hm D q => by
  obtain ⟨ds, hg, q⟩ := asL_run q
  obtain ⟨p, vs, h1, h2, h3, h4, h5⟩ := ok.lstAt hg
  cases c : ds.getLast? with
  | none => simp only [c] at q; exact q.elim
  | some d =>
    simp only [c] at q
    rw [List.getLast?_eq_getElem?, ← dpa_len h5] at c
    obtain ⟨v, c1, c2⟩ := dpa_get h5 c
    exact ⟨_, sg_some h2, tyV_lst h4, p, vs, v, rfl, rfl, h4, c1, q G _ _ _ (Ex.refl _)
      ((ok.wrB h1 (s := .lst ds.dropLast) ⟨p, _, rfl, rfl, h3, upd_same, dpa_dropLast h5⟩).put (i := j) (f := none) (s := .imm d) (o := some v) ⟨rfl, v, rfl, c2⟩ (fun p j z => by cases z))⟩
/-- xs.pop(e) as a statement's value -/
def sPopAt (j i : Nat) (m : Env → W PyData) : Ms := fun env => do
  let ds ← asL (gt env i)
  match ← m env with
  | .int k => match ds[k.toNat]? with
    | some d => do W.need (0 ≤ k ∧ k < 2 ^ 63); pure (.nx, (env.set i (.lst (ds.eraseIdx k.toNat))).set j (.imm d))
    | none => W.fail
  | _ => W.fail
theorem seqIx {k : Int} {n : Nat} (h0 : 0 ≤ k) (h : k.toNat < n) : seqIndex? k n = some k.toNat := by
  have e : ixN n k = some k.toNat := by unfold ixN; rw [if_pos h0, if_pos (by omega)]
  exact (ixN_seq e).1
theorem tjs_popAt {i j : Nat} (h : TJ K te m) : TJS M K (tAsg (tBM K "list" rPopAt (tVar i) (tCons te tNil)) (gName j)) (sPopAt j i m) := fun B G fps env σ H ok hm D q => by
  obtain ⟨ds, hg, q⟩ := asL_run q
  obtain ⟨p, vs, h1, h2, h3, h4, h5⟩ := ok.lstAt hg
  refine ⟨_, sg_some h2, tyV_lst h4, ok.ev h ((m env).mono (fun d k v G' H' e ok' dv => ?_) q)⟩
  obtain ⟨p', vs', h1', h2', h3', h4', h5'⟩ := ok'.lstAt hg
  rw [h1] at h1'
  cases h1'
  cases d with
  | int x =>
    cases dv
    cases c : ds[x.toNat]? with
    | none => simp only [c] at k; exact k.elim
    | some d =>
      simp only [c] at k
      obtain ⟨v, c1, c2⟩ := dpa_get h5' c
      have hl : x.toNat < vs'.length := (List.getElem?_eq_some_iff.mp c1).1
      exact ⟨p, vs', x, x.toNat, v, rfl, rfl, h4', by have := k.1.1; omega, k.1.2, seqIx k.1.1 hl, c1, k.2 G' _ _ _ e
        ((ok'.wrB h1 (s := .lst (ds.eraseIdx x.toNat)) ⟨p, _, rfl, rfl, h3', upd_same, dpa_erase _ h5'⟩).put (i := j) (f := none) (s := .imm d) (o := some v) ⟨rfl, v, rfl, c2⟩ (fun p j z => by cases z))⟩
  | _ => exact k.elim
/-- xs[i] = e -/
def sSetI (i : Nat) (mi m : Env → W PyData) : Ms := fun env => do
  let ds ← asL (gt env i)
  let d ← m env
  match ← mi env with
  | .int k => match ixN ds.length k with
    | some j => pure (.nx, env.set i (.lst (ds.set j d)))
    | none => W.fail
  | _ => W.fail
theorem tjs_setI {i : Nat} {ti : TE} {mi : Env → W PyData} (h : TJ K te m) (hi : TJ K ti mi) : TJS M K (tAsg te (gSub (tVar i) ti rSetL)) (sSetI i mi m) := fun B G fps env σ H ok hm D q => by
  obtain ⟨ds, hg, q⟩ := asL_run q
  refine ok.ev h ((m env).mono (fun d k v G1 H1 e1 ok1 dv => ?_) q)
  obtain ⟨p, vs, h1, h2, h3, h4, h5⟩ := ok1.lstAt hg
  refine ⟨_, sg_some h2, ok1.ev hi ((mi env).mono (fun d2 k2 v2 G2 H2 e2 ok2 dv2 => ?_) k)⟩
  obtain ⟨p', vs', h1', h2', h3', h4', h5'⟩ := ok2.lstAt hg
  rw [h1] at h1'
  cases h1'
  cases d2 with
  | int x =>
    cases dv2
    cases c : ixN ds.length x with
    | none => simp only [c] at k2; exact k2.elim
    | some j =>
      simp only [c] at k2
      exact ⟨p, vs', x, j, rfl, rfl, h4', by rw [dpa_len h5']; exact c, k2 G2 _ _ _ (e1.trans e2) (ok2.wrB h1 (s := .lst (ds.set j d)) ⟨p, _, rfl, rfl, h3', upd_same, dpa_set (dp_ex e2 dv) _ h5'⟩)⟩
  | _ => exact k2.elim
/-- x += e, ints -/
def sAug (i : Nat) (f : Int → Int → Int) (m : Env → W PyData) : Ms := fun env => match gt env i with
  | .imm (.int a) => do
    match ← m env with
    | .int b => pure (.nx, env.set i (.imm (.int (f a b))))
    | _ => W.fail
  | _ => W.fail
theorem tjs_aug {i : Nat} {f : Int → Int → Int} (h : TJ K te m) : TJS M K (tAug i te (ipI f)) (sAug i f m) := fun B G fps env σ H ok hm D q => by
  have s := ok.sl i
  unfold sAug at q
  split at q
  · rename_i a hg
    rw [hg] at s
    obtain ⟨_, v, h1, h2⟩ := s
    cases h2
    refine ⟨_, sg_some h1, ok.ev h ((m env).mono (fun d k v G' H' e ok' dv => ?_) q)⟩
    cases d with
    | int b => cases dv; exact ⟨a, b, rfl, rfl, k G' _ _ _ e (ok'.put (i := i) (f := none) (s := .imm (.int (f a b))) (o := some (.int (f a b))) ⟨rfl, _, rfl, .int _⟩ (fun p j z => by cases z))⟩
    | _ => exact k.elim
  · exact q.elim
/-- a list in a box becomes data -/
def frz (is : List Nat) (env : Env) : Env := is.foldl (fun e i => match gt e i with
  | .lst ds => e.set i (.imm (.list ds))
  | .dK kvs => e.set i (.rK kvs)
  | .dT kvs => e.set i (.rT kvs)
  | _ => e) env
theorem Ok.frzA {B : Ba} {G H : Hp} {fps : Fps} {env : Env} {σ : L2.St} (ok : Ok K B G fps env σ H) (hm : B.mu = fpsOf B.ops) (i : Nat) {p : Addr} {o : HO} {s : Sl} (h1 : fg fps i = some p) (h2 : sg σ i = some (.ref p)) (h3 : BoxP B G p) (h4 : H p = some o) (ho : NF o) (ht : NT o)
    (hs : ∀ G', Ex G G' → G' p = some o → SlOk K B G' H none s (some (.ref p))) : ∃ G' fps', Ex G G' ∧ Ok K B G' fps' (env.set i s) σ H := by
  have h0 : B.H p = none := by
    rcases h3.2.1 with z | z
    · rw [hm] at z
      obtain ⟨o, ho, ha⟩ := mem_fpsOf.mp z
      exact absurd ha (h3.2.2 o ho)
    · exact z
  obtain ⟨f1, e1⟩ := frz_fraO ok.fra h0 h4 h3.1 ho ht
  refine ⟨upd G p o, fps.set i none, e1, f1, by simp [ok.lE], by simp [ok.lF], fun j => ?_, fun j k q hj hk => ?_⟩
  · rw [fg_set, gt_set, ok.lE, ok.lF]
    by_cases c : i = j ∧ j < σ.length
    · rw [if_pos c, if_pos c, ← c.1, h2]
      exact hs _ e1 upd_same
    · rw [if_neg c, if_neg c]
      refine (ok.sl j).mono e1 (fun q hq b => ⟨?_, b.2⟩) (fun q hq => rfl)
      have ne : q ≠ p := fun z => by
        have hij := ok.dis i j p h1 (z ▸ hq)
        refine c ⟨hij, ?_⟩
        rcases Nat.lt_or_ge j σ.length with h | h
        · exact h
        · have : fg fps j = none := getD_out fps j none (by rw [ok.lF]; exact h)
          rw [this] at hq; cases hq
      rw [upd_ne ne]; exact b.1
  · rw [fg_set] at hj hk
    by_cases c1 : i = j ∧ j < fps.length
    · rw [if_pos c1] at hj; cases hj
    · by_cases c2 : i = k ∧ k < fps.length
      · rw [if_pos c2] at hk; cases hk
      · rw [if_neg c1] at hj; rw [if_neg c2] at hk; exact ok.dis j k q hj hk
theorem Ok.frz1 {B : Ba} {G H : Hp} {fps : Fps} {env : Env} {σ : L2.St} (ok : Ok K B G fps env σ H) (hm : B.mu = fpsOf B.ops) (i : Nat) : ∃ G' fps', Ex G G' ∧ Ok K B G' fps' (match gt env i with
  | .lst ds => env.set i (.imm (.list ds))
  | .dK kvs => env.set i (.rK kvs)
  | .dT kvs => env.set i (.rT kvs)
  | _ => env) σ H := by
  have s := ok.sl i
  split
  · rename_i ds hg
    rw [hg] at s
    obtain ⟨p, vs, h1, h2, h3, h4, h5⟩ := s
    exact ok.frzA hm i h1 h2 h3 h4 trivial trivial fun G' e g => ⟨rfl, _, rfl, .lst (.inl (.inl g)) (dpa_ex e h5)⟩
  · rename_i ds hg
    rw [hg] at s
    obtain ⟨p, vs, h1, h2, h3, h4, h5⟩ := s
    exact ok.frzA hm i h1 h2 h3 h4 trivial trivial fun G' e g => ⟨rfl, p, vs, rfl, g, kvd_ex e h5⟩
  · rename_i ds hg
    rw [hg] at s
    obtain ⟨p, vs, h1, h2, h3, h4, h5⟩ := s
    exact ok.frzA hm i h1 h2 h3 h4 trivial trivial fun G' e g => ⟨rfl, p, vs, rfl, .inl g, kvd_ex e h5⟩
  · exact ⟨G, fps, Ex.refl _, ok⟩
theorem Ok.frz {B : Ba} {H : Hp} {σ : L2.St} (hm : B.mu = fpsOf B.ops) : ∀ (is : List Nat) {G : Hp} {fps : Fps} {env : Env}, Ok K B G fps env σ H → ∃ G' fps', Ex G G' ∧ Ok K B G' fps' (frz is env) σ H
  | [], G, fps, env, ok => ⟨G, fps, Ex.refl _, ok⟩
  | i :: is, G, fps, env, ok => by
    obtain ⟨G1, fps1, e1, ok1⟩ := ok.frz1 hm i
    obtain ⟨G2, fps2, e2, ok2⟩ := Ok.frz hm is ok1
    exact ⟨G2, fps2, e1.trans e2, ok2⟩
def sFrz (is : List Nat) (ms : Ms) : Ms := fun env => ms (frz is env)
theorem tjs_frz {is : List Nat} (h : TJS Tight K tu mu) : TJS Tight K tu (sFrz is mu) := fun B G fps env σ H ok hm D q => by
  obtain ⟨G1, fps1, e1, ok1⟩ := ok.frz hm is
  exact h B G1 fps1 _ σ H ok1 hm D (W.mono _ (fun r k G' fps' σ' H' e ok' => k G' fps' σ' H' (e1.trans e) ok') q)
/-! loops -/
def killE (is : List Nat) (env : Env) : Env := is.foldl (fun e i => e.set i .any) env
theorem Ok.kills {B : Ba} {G H : Hp} {σ : L2.St} : ∀ (is : List Nat) {fps : Fps} {env : Env}, Ok K B G fps env σ H → ∃ fps', Ok K B G fps' (killE is env) σ H
  | [], fps, env, ok => ⟨fps, ok⟩
  | i :: is, fps, env, ok => Ok.kills is (ok.kill i)
def loopM (kl : List Nat) (mg : PyData → Env → W Env) (mb : Ms) : List PyData → Ms
  | [], env => pure (.nx, env)
  | d :: r, env => do
    let e1 ← mg d env
    let q ← mb e1
    match q.1 with
    | .nx => loopM kl mg mb r (killE kl q.2)
    | .ct => loopM kl mg mb r (killE kl q.2)
    | .bk => pure (.nx, killE kl q.2)
    | .rt v => pure (.rt v, q.2)
def sFor (kl : List Nat) (mi : Env → W (List PyData)) (mg : PyData → Env → W Env) (mb : Ms) : Ms := fun env => do
  let ds ← mi env
  loopM kl mg mb ds (killE kl env)
theorem tjs_for {wi : TI} {g : TG} {mi : Env → W (List PyData)} {mg : PyData → Env → W Env} {mb : Ms} {tb : TS} {kl : List Nat} (hi : TJI K wi mi) (hg : TJG K g mg) (hb : TJS M K tb mb) : TJS M K (tFor wi g tb) (sFor kl mi mg mb) := fun B G fps env σ H ok hm D q =>
  hi _ G env σ H ok.view _ ((mi env).mono (fun ds q1 J G1 H1 e1 f1 wk => by
    have ok1 := ok.back f1
    obtain ⟨fps0, ok0⟩ := ok1.kills kl
    refine ⟨fun i m σ H => m = ds.length - i ∧ i ≤ ds.length ∧ ∃ Gi fpi ei, Ex G1 Gi ∧ Ok K B Gi fpi ei σ H ∧ (loopM kl mg mb (ds.drop i) ei).run fun r => ∀ G' fps' σ' H', Ex G G' → Ok K B G' fps' r.2 σ' H' → FlOk K B D r.1 G' σ' H',
      ⟨ds.length, rfl, Nat.zero_le _, G1, fps0, _, Ex.refl _, ok0, q1⟩, ?_⟩
    rintro i m σ2 H2 ⟨rfl, hi2, Gi, fpi, ei, eGi, oki, hrun⟩
    rcases Nat.lt_or_ge i ds.length with hlt | hge
    · refine .inr ⟨wk.goes i H2 hlt (eGi.trans oki.fra.ex), fun σ' H' => ∃ Gi fpi ei, Ex G1 Gi ∧ Ok K B Gi fpi ei σ' H' ∧ (loopM kl mg mb (ds.drop (i + 1)) ei).run fun r => ∀ G' fps' σ' H', Ex G G' → Ok K B G' fps' r.2 σ' H' → FlOk K B D r.1 G' σ' H',
        fun σ' H' h => ⟨ds.length - (i + 1), by omega, rfl, hlt, h⟩, fun x H3 hy => ?_⟩
      obtain ⟨G3, d, st, hd, dx⟩ := wk.yields i Gi H2 x H3 hlt eGi oki.fra.ex hy
      have e3 : Ex Gi G3 := (st.fra oki.fra).2
      have ok3 : Ok K B G3 fpi ei σ2 H3 := by
        cases st with
        | same => exact oki
        | new hp => exact (oki.alloc hp).1
      rw [List.drop_eq_getElem_cons hlt, (List.getElem?_eq_some_iff.mp hd).2] at hrun
      refine hg B G3 fpi ei σ2 H3 x d ok3 dx _ (W.mono _ (fun e2 q2 fp4 σ4 ok4 => ?_) hrun)
      refine hb B G3 fp4 e2 σ4 H3 ok4 hm _ (W.mono _ (fun r q3 G5 fp5 σ5 H5 e5 ok5 => ?_) q2)
      obtain ⟨fl, e6⟩ := r
      obtain ⟨fp6, ok6⟩ := ok5.kills kl
      cases fl with
      | nx => exact ⟨G5, fp6, _, (eGi.trans e3).trans e5, ok6, q3⟩
      | ct => exact ⟨G5, fp6, _, (eGi.trans e3).trans e5, ok6, q3⟩
      | bk => exact q3 G5 fp6 σ5 H5 (((e1.trans eGi).trans e3).trans e5) ok6
      | rt v => exact q3 G5 fp5 σ5 H5 (((e1.trans eGi).trans e3).trans e5) ok5
    · have hi3 : i = ds.length := by omega
      subst hi3
      rw [List.drop_eq_nil_of_le (Nat.le_refl _)] at hrun
      exact .inl ⟨wk.stops H2 (eGi.trans oki.fra.ex), hrun Gi fpi σ2 H2 (e1.trans eGi) oki⟩) q)
def whileM (kl : List Nat) (mc : Env → W Bool) (mb : Ms) : Nat → Ms
  | 0, _ => W.fail
  | n + 1, env => do
    if (← mc env) = true then (do
      let q ← mb env
      match q.1 with
      | .nx => whileM kl mc mb n (killE kl q.2)
      | .ct => whileM kl mc mb n (killE kl q.2)
      | .bk => pure (.nx, killE kl q.2)
      | .rt v => pure (.rt v, q.2))
    else pure (.nx, env)
def W.exi {a : Type} (f : Nat → W a) : W a := ⟨fun Q => ∃ n, (f n).run Q, fun h q => q.elim fun n p => ⟨n, (f n).mono h p⟩⟩
def sWhile (kl : List Nat) (mc : Env → W Bool) (mb : Ms) : Ms := fun env => W.exi fun n => whileM kl mc mb n (killE kl env)
theorem tjs_while {tc : TT} {mc : Env → W Bool} {tb : TS} {mb : Ms} {kl : List Nat} (hc : TJT K tc mc) (hb : TJS M K tb mb) : TJS M K (tWhile tc tb) (sWhile kl mc mb) := fun B G fps env σ H ok hm D q => by
  obtain ⟨n, q⟩ := q
  obtain ⟨fps0, ok0⟩ := ok.kills kl
  refine ⟨fun m σ H => ∃ Gi fpi ei, Ex G Gi ∧ Ok K B Gi fpi ei σ H ∧ (whileM kl mc mb m ei).run fun r => ∀ G' fps' σ' H', Ex G G' → Ok K B G' fps' r.2 σ' H' → FlOk K B D r.1 G' σ' H', ⟨n, G, fps0, _, Ex.refl _, ok0, q⟩, ?_⟩
  rintro m σ2 H2 ⟨Gi, fpi, ei, eGi, oki, hrun⟩
  cases m with
  | zero => exact hrun.elim
  | succ m =>
    refine oki.evT hc (W.mono _ (fun b q1 G3 H3 e3 ok3 => ?_) hrun)
    cases b with
    | false => exact q1 G3 fpi σ2 H3 (eGi.trans e3) ok3
    | true =>
      refine ⟨fun σ' H' => ∃ Gi fpi ei, Ex G Gi ∧ Ok K B Gi fpi ei σ' H' ∧ (whileM kl mc mb m ei).run fun r => ∀ G' fps' σ' H', Ex G G' → Ok K B G' fps' r.2 σ' H' → FlOk K B D r.1 G' σ' H', fun σ' H' h => ⟨m, Nat.lt_succ_self _, h⟩, ?_⟩
      refine hb B G3 fpi ei σ2 H3 ok3 hm _ (W.mono _ (fun r q3 G5 fp5 σ5 H5 e5 ok5 => ?_) q1)
      obtain ⟨fl, e6⟩ := r
      obtain ⟨fp6, ok6⟩ := ok5.kills kl
      cases fl with
      | nx => exact ⟨G5, fp6, _, (eGi.trans e3).trans e5, ok6, q3⟩
      | ct => exact ⟨G5, fp6, _, (eGi.trans e3).trans e5, ok6, q3⟩
      | bk => exact q3 G5 fp6 σ5 H5 ((eGi.trans e3).trans e5) ok6
      | rt v => exact q3 G5 fp5 σ5 H5 ((eGi.trans e3).trans e5) ok5
/-! ### a def's body -/
def mFn (k : Nat) (ms : Ms) : List Sl → W Rv := fun args => do
  let r ← ms (args ++ List.replicate k .any)
  match r.1 with
  | .rt v => pure v
  | .nx => pure (.im .none)
  | _ => W.fail
theorem getD_app {a : Type} {xs ys : List a} {d : a} {i : Nat} : (xs ++ ys).getD i d = if i < xs.length then xs.getD i d else ys.getD (i - xs.length) d := by
  simp only [List.getD_eq_getElem?_getD, List.getElem?_append]
  split <;> rfl
theorem getD_rep {a : Type} {d : a} {k i : Nat} : (List.replicate k d).getD i d = d := by
  simp only [List.getD_eq_getElem?_getD, List.getElem?_replicate]
  split <;> rfl
theorem paired_at {a b : Type} {R : a → b → Prop} : ∀ {l : List a} {m : List b}, Paired R l m → ∀ i (h : i < l.length) (h' : i < m.length), R l[i] m[i]
  | _, _, .cons r _, 0, _, _ => r
  | _, _, .cons _ t, i + 1, h, h' => paired_at t i (by simpa using h) (by simpa using h')
theorem fn_body {N : List Str} {n k : Nat} {ms : Ms} (h : TJS Tight K tu ms) (hN : N.length = n + k) {vs : List V} {H : Hp} {Q : VK} {E : XK} (hs : spF K n (mFn k ms) vs H Q E) : tu { nx := fun _ H' => Q .non H', rt := Q } (start N vs) H := by
  obtain ⟨G, ops, args, f, hl, hp, hrun⟩ := hs
  have lv := paired_len hp
  have ok : Ok K (bas G H (fpsOf ops) ops) G (List.replicate (n + k) none) (args ++ List.replicate k .any) (start N vs) H := by
    refine ⟨f, ?_, ?_, fun i => ?_, fun i j p hi _ => ?_⟩
    · simp [L2.start, hl, lv, hN]
    · simp [L2.start, hl, lv, hN]
    · have e1 : fg (List.replicate (n + k) none) i = none := getD_rep
      rw [e1]
      have e2 : gt (args ++ List.replicate k .any) i = if i < args.length then gt args i else .any := by
        unfold gt; rw [getD_app, getD_rep]
      rw [e2]
      by_cases c : i < args.length
      · rw [if_pos c]
        have c' : i < vs.length := by omega
        have e3 : sg (start N vs) i = some vs[i] := by
          unfold sg L2.start
          rw [getD_app, if_pos (by simpa using c')]
          simp [List.getD_eq_getElem?_getD, c']
        have e4 : gt args i = args[i] := by simp [gt, List.getD_eq_getElem?_getD, c]
        have r := paired_at hp i c' c
        rw [e3, e4]
        cases e5 : args[i] with
        | imm d => rw [e5] at r; exact ⟨rfl, _, rfl, r⟩
        | opq q => rw [e5] at r; obtain ⟨o, o1, o2⟩ := r; exact ⟨rfl, o, o1, by rw [o2]⟩
        | adr q => rw [e5] at r; exact ⟨rfl, _, rfl, r⟩
        | rK d => rw [e5] at r; obtain ⟨p, es, o1, o2⟩ := r; exact ⟨rfl, p, es, by rw [o1], o2⟩
        | rT d => rw [e5] at r; obtain ⟨p, es, o1, o2⟩ := r; exact ⟨rfl, p, es, by rw [o1], o2⟩
        | _ => rw [e5] at r; exact r.elim
      · rw [if_neg c]; exact rfl
    · have e1 : fg (List.replicate (n + k) none) i = none := getD_rep
      rw [e1] at hi; cases hi
  refine h _ G _ _ _ H ok rfl _ (W.mono _ (fun r q G' fps' σ' H' e ok' => ?_) hrun)
  obtain ⟨fl, e'⟩ := r
  cases fl with
  | rt v => exact fun u hu => q u G' H' e ok'.fra hu
  | nx => exact q .non G' H' e ok'.fra .non
  | bk => exact q.elim
  | ct => exact q.elim
end
end Z
namespace Z
variable [PoC]
open PySem PySem.Spec PyProof.Rows L2
open Evl (Ex fresh_back)
/-! ### dicts with int and text keys -/
def keyW : PyData → W Key
  | .int i => pure (.inl i)
  | .str x => pure (.inr x)
  | _ => W.fail
def kD : Key → PyData
  | .inl i => .int i
  | .inr x => .str x
section
variable {κ : Type} [DecidableEq κ]
def lookP (kvs : List (κ × PyData)) (k : κ) : Option PyData := (kvs.find? fun p => decide (p.1 = k)).map (·.2)
def putP (kvs : List (κ × PyData)) (k : κ) (d : PyData) : List (κ × PyData) :=
  if (kvs.any fun p => decide (p.1 = k)) = true then kvs.map (fun p => if p.1 = k then (p.1, d) else p) else kvs ++ [(k, d)]
theorem kvd_any {K : PySem.W.Frag} {G : Hp} {k : κ} : ∀ {es : List (κ × V)} {kvs : List (κ × PyData)}, KVD K G es kvs → (es.any fun p => decide (p.1 = k)) = kvs.any fun p => decide (p.1 = k)
  | _, _, .nil => rfl
  | _, _, .cons a r => by simp only [List.any_cons, a.1, kvd_any r]
theorem kvd_look {K : PySem.W.Frag} {G : Hp} {k : κ} : ∀ {es : List (κ × V)} {kvs : List (κ × PyData)}, KVD K G es kvs → (lookP kvs k = none ∧ valV es k = none) ∨ ∃ d v, lookP kvs k = some d ∧ valV es k = some v ∧ Dp K G v d
  | _, _, .nil => .inl ⟨rfl, rfl⟩
  | _, _, .cons (a := a) (b := b) h r => by
    by_cases c : b.1 = k
    · have c' : a.1 = k := h.1.trans c
      refine .inr ⟨b.2, a.2, ?_, ?_, h.2⟩
      · simp [lookP, c]
      · simp [valV, c']
    · have c' : ¬ a.1 = k := fun z => c (h.1 ▸ z)
      have e1 : ∀ t : List (κ × PyData), lookP (b :: t) k = lookP t k := fun t => by simp [lookP, c]
      have e2 : ∀ t : List (κ × V), valV (a :: t) k = valV t k := fun t => by simp [valV, c']
      rw [e1, e2]
      exact kvd_look r
theorem kvd_map {K : PySem.W.Frag} {G : Hp} {k : κ} {v : V} {d : PyData} (hd : Dp K G v d) : ∀ {es : List (κ × V)} {kvs : List (κ × PyData)}, KVD K G es kvs → KVD K G (es.map fun p => if p.1 = k then (p.1, v) else p) (kvs.map fun p => if p.1 = k then (p.1, d) else p)
  | _, _, .nil => .nil
  | _, _, .cons (a := a) (b := b) h r => by
    refine .cons ?_ (kvd_map hd r)
    by_cases c : b.1 = k
    · have c' : a.1 = k := h.1.trans c
      simp only [c, c', if_true]
      exact ⟨trivial, hd⟩
    · have c' : ¬ a.1 = k := fun z => c (h.1 ▸ z)
      simp only [c, c', if_false]
      exact h
theorem kvd_app {K : PySem.W.Frag} {G : Hp} {x : κ × V} {y : κ × PyData} (h : x.1 = y.1 ∧ Dp K G x.2 y.2) : ∀ {es : List (κ × V)} {kvs : List (κ × PyData)}, KVD K G es kvs → KVD K G (es ++ [x]) (kvs ++ [y])
  | _, _, .nil => .cons h .nil
  | _, _, .cons a r => .cons a (kvd_app h r)
theorem kvd_put {K : PySem.W.Frag} {G : Hp} {k : κ} {v : V} {d : PyData} (hd : Dp K G v d) {es : List (κ × V)} {kvs : List (κ × PyData)} (h : KVD K G es kvs) : KVD K G (putK es k v) (putP kvs k d) := by
  unfold putK putP
  rw [kvd_any h]
  split
  · exact kvd_map hd h
  · exact kvd_app ⟨rfl, hd⟩ h
theorem kvd_len {K : PySem.W.Frag} {G : Hp} {es : List (κ × V)} {kvs : List (κ × PyData)} (h : KVD K G es kvs) : es.length = kvs.length := paired_len h
end
section
variable {M : Ba → Prop} {K : PySem.W.Frag} {te ta tb : TE} {m ma mb : Env → W PyData}
def asDK : Sl → W (List (Key × PyData))
  | .dK kvs => pure kvs
  | _ => W.fail
theorem asDK_run {s : Sl} {Q : List (Key × PyData) → Prop} (h : (asDK s).run Q) : ∃ kvs, s = .dK kvs ∧ Q kvs := by
  cases s with
  | dK kvs => exact ⟨kvs, rfl, h⟩
  | _ => exact h.elim
def asDR : Sl → W (List (Key × PyData))
  | .dK kvs => pure kvs
  | .rK kvs => pure kvs
  | _ => W.fail
theorem asDR_run {s : Sl} {Q : List (Key × PyData) → Prop} (h : (asDR s).run Q) : ∃ kvs, (s = .dK kvs ∨ s = .rK kvs) ∧ Q kvs := by
  cases s with
  | dK kvs => exact ⟨kvs, .inl rfl, h⟩
  | rK kvs => exact ⟨kvs, .inr rfl, h⟩
  | _ => exact h.elim
theorem keyW_run {d : PyData} {Q : Key → Prop} (h : (keyW d).run Q) : ∃ k, d = kD k ∧ Q k := by
  cases d with
  | int i => exact ⟨.inl i, rfl, h⟩
  | str i => exact ⟨.inr i, rfl, h⟩
  | _ => exact h.elim
theorem dp_kD {G : Hp} {v : V} {k : Key} (h : Dp K G v (kD k)) : v = kV k := by
  cases k with
  | inl i => exact dp_int h
  | inr x => exact dp_str h
theorem ROk.dkAt {B : Ba} {G H : Hp} {env : Env} {σ : L2.St} (ok : ROk K B G env σ H) {j : Nat} {kvs : List (Key × PyData)} (e : gt env j = .dK kvs ∨ gt env j = .rK kvs) :
    ∃ p es, sg σ j = some (.ref p) ∧ KVD K G es kvs ∧ ∀ G' H', Ex G G' → Fra B G' H' → H' p = some (.dK es) := by
  have s := ok.sl j
  rcases e with e | e
  · rw [e] at s
    obtain ⟨p, es, h1, h2, h3, h4, h5⟩ := s
    exact ⟨p, es, h1, kvd_ex ok.fra.old h5, fun G' H' _ f => f.keep p _ h3 h2⟩
  · rw [e] at s
    obtain ⟨p, es, h1, h2, h3⟩ := s
    exact ⟨p, es, h1, h3, fun G' H' e f => f.ex _ _ (e _ _ h2)⟩
def mDIn (neg : Bool) (j : Nat) (m : Env → W PyData) : Env → W PyData := fun env => do
  let kvs ← asDR (gt env j)
  let k ← keyW (← m env)
  pure (.bool (if neg then !(lookP kvs k).isSome else (lookP kvs k).isSome))
theorem look_some {G : Hp} {es : List (Key × V)} {kvs : List (Key × PyData)} {k : Key} (h : KVD K G es kvs) : (valV es k).isSome = (lookP kvs k).isSome := by
  rcases kvd_look (k := k) h with ⟨h1, h2⟩ | ⟨d, v, h1, h2, _⟩ <;> rw [h1, h2] <;> rfl
theorem tj_din {j : Nat} (h : TJ K te m) : TJ K (tDIn te (tVar j)) (mDIn false j m) := fun B G env σ H ok Q q => by
  obtain ⟨kvs, hj, q⟩ := asDR_run q
  obtain ⟨p, es, h1, h2, h3⟩ := ok.dkAt hj
  refine h B G env σ H ok _ ((m env).mono (fun d q1 v G1 H1 e1 f1 d1 => ?_) q)
  obtain ⟨k, rfl, q2⟩ := keyW_run q1
  refine ⟨_, sg_some h1, p, valV es k, rfl, ?_, ?_⟩
  · rw [dp_kD d1]; exact DGet.k (h3 G1 H1 e1 f1)
  · rw [look_some h2]; exact q2 _ G1 H1 e1 f1 (.bl _)
theorem tj_dnotin {j : Nat} (h : TJ K te m) : TJ K (tDNotIn te (tVar j)) (mDIn true j m) := fun B G env σ H ok Q q => by
  obtain ⟨kvs, hj, q⟩ := asDR_run q
  obtain ⟨p, es, h1, h2, h3⟩ := ok.dkAt hj
  refine h B G env σ H ok _ ((m env).mono (fun d q1 v G1 H1 e1 f1 d1 => ?_) q)
  obtain ⟨k, rfl, q2⟩ := keyW_run q1
  refine ⟨_, sg_some h1, p, valV es k, rfl, ?_, ?_⟩
  · rw [dp_kD d1]; exact DGet.k (h3 G1 H1 e1 f1)
  · rw [look_some h2]; exact q2 _ G1 H1 e1 f1 (.bl _)
def asSome : Option PyData → W PyData
  | some d => pure d
  | none => W.fail
def mDGet (j : Nat) (m : Env → W PyData) : Env → W PyData := fun env => do
  let kvs ← asDR (gt env j)
  let k ← keyW (← m env)
  asSome (lookP kvs k)
theorem tj_dget {j : Nat} (h : TJ K te m) : TJ K (tDGet (tVar j) te) (mDGet j m) := fun B G env σ H ok Q q => by
  obtain ⟨kvs, hj, q⟩ := asDR_run q
  obtain ⟨p, es, h1, h2, h3⟩ := ok.dkAt hj
  refine ⟨_, sg_some h1, h B G env σ H ok _ ((m env).mono (fun d q1 v G1 H1 e1 f1 d1 => ?_) q)⟩
  obtain ⟨k, rfl, q2⟩ := keyW_run q1
  rcases kvd_look (k := k) h2 with ⟨c1, c2⟩ | ⟨d, u, c1, c2, c3⟩
  · simp only [c1, asSome, run_fail] at q2
  · simp only [c1, asSome, run_pure] at q2
    exact ⟨p, u, rfl, by rw [dp_kD d1, ← c2]; exact DGet.k (h3 G1 H1 e1 f1), q2 _ G1 H1 e1 f1 (dp_ex e1 c3)⟩
def mDGet2 (j : Nat) (m mx : Env → W PyData) : Env → W PyData := fun env => do
  let kvs ← asDR (gt env j)
  let k ← keyW (← m env)
  let x ← mx env
  pure ((lookP kvs k).getD x)
theorem tj_dget2 {j : Nat} {tx : TE} {mx : Env → W PyData} (h : TJ K te m) (hx : TJ K tx mx) : TJ K (tDGet2 (tVar j) te tx) (mDGet2 j m mx) := fun B G env σ H ok Q q => by
  obtain ⟨kvs, hj, q⟩ := asDR_run q
  obtain ⟨p, es, h1, h2, h3⟩ := ok.dkAt hj
  refine ⟨_, sg_some h1, p, rfl, .inl ⟨es, .inl (h3 G H (Ex.refl _) ok.fra)⟩, h B G env σ H ok _ ((m env).mono (fun d q1 v G1 H1 e1 f1 d1 => ?_) q)⟩
  obtain ⟨k, rfl, q2⟩ := keyW_run q1
  refine hx B G1 env σ H1 (ok.go e1 f1) _ ((mx env).mono (fun x q3 u G2 H2 e2 f2 d2 => ?_) q2)
  refine ⟨valV es k, by rw [dp_kD d1]; exact DGet.k (h3 G2 H2 (e1.trans e2) f2), ?_⟩
  rcases kvd_look (k := k) h2 with ⟨c1, c2⟩ | ⟨d, w, c1, c2, c3⟩
  · simp only [c1, Option.getD_none, run_pure] at q3; rw [c2]; exact q3 _ G2 H2 (e1.trans e2) f2 d2
  · simp only [c1, Option.getD_some, run_pure] at q3; rw [c2]; exact q3 _ G2 H2 (e1.trans e2) f2 (dp_ex (e1.trans e2) c3)
def sDPut (j : Nat) (mk mv : Env → W PyData) : Ms := fun env => do
  let kvs ← asDK (gt env j)
  let d ← mv env
  let k ← keyW (← mk env)
  W.need (kvs.length < sizeLine)
  pure (.nx, env.set j (.dK (putP kvs k d)))
theorem tjs_dput {j : Nat} {tk tv : TE} {mk mv : Env → W PyData} (hk : TJ K tk mk) (hv : TJ K tv mv) : TJS M K (L2.sDPut (tVar j) tk tv) (sDPut j mk mv) := fun B G fps env σ H ok hm D q => by
  obtain ⟨kvs, hj, q⟩ := asDK_run q
  refine ok.ev hv ((mv env).mono (fun d q1 v G1 H1 e1 ok1 d1 => ?_) q)
  have s := ok1.sl j
  rw [hj] at s
  obtain ⟨p, es, h1, h2, h3, h4, h5⟩ := s
  refine ⟨_, sg_some h2, ok1.ev hk ((mk env).mono (fun dk q2 u G2 H2 e2 ok2 d2 => ?_) q1)⟩
  obtain ⟨k, rfl, q3⟩ := keyW_run q2
  have s' := ok2.sl j
  rw [hj] at s'
  obtain ⟨p', es', h1', h2', h3', h4', h5'⟩ := s'
  rw [h1] at h1'
  cases h1'
  refine ⟨p, _, rfl, by rw [dp_kD d2]; exact DPut.k h4' (by rw [kvd_len h5']; exact q3.1), ?_⟩
  exact q3.2 G2 fps σ _ (e1.trans e2) (ok2.wrB h1 (s := .dK (putP kvs k d)) ⟨p, _, rfl, rfl, h3', upd_same, kvd_put (dp_ex e2 d1) h5'⟩)
/-! sorted(d) -/
def rSortDK : List V → Hp → VK → Prop := fun xs H Q => ∃ a es, xs = [.ref a] ∧ H a = some (.dK es) ∧ sortable (es.map fun p => kD p.1) ∧ es.length ≤ sizeLine ∧
  ∀ p ws, H p = none → (∀ K G, DpAll K G ws (sortD (es.map fun p => kD p.1))) → Q (.ref p) (upd H p (.lst ws))
theorem rel_kD {k : Key} {u : Value} (h : keyIs k u = true) : ∃ x, RelV x u ∧ ∀ K G, Dp K G x (kD k) := by
  cases k with
  | inl i => exact ⟨.int i, keyIs_rel h, fun _ _ => .int i⟩
  | inr x => exact ⟨.str x, keyIs_rel h, fun _ _ => .str x⟩
theorem reads_kD {h : Heap} {k : Key} {u : Value} (e : keyIs k u = true) : ∃ as, Reads h u (kD k) as := by
  cases k with
  | inl i => obtain ⟨t, rfl⟩ := keyIs_rel e; exact ⟨[], .int i t⟩
  | inr x => obtain ⟨t, rfl⟩ := keyIs_rel e; exact ⟨[], .str x t⟩
theorem each_keys {R : Value → PyData → Prop} : ∀ {us : List Value} {ks : List Key}, us.length = ks.length → (∀ (j : Nat) (u : Value) (k : Key), us[j]? = some u → ks[j]? = some k → R u (kD k)) → PySem.W.EachIs R us (ks.map kD)
  | [], [], _, _ => .nil
  | [], _ :: _, h, _ => by simp at h
  | _ :: _, [], h, _ => by simp at h
  | u :: us, k :: ks, h, f => .cons (f 0 u k rfl rfl) (each_keys (by simpa using h) fun j u k h1 h2 => f (j + 1) u k (by simpa using h1) (by simpa using h2))
theorem each_dk {us : List Value} {ds : List PyData} (h : PySem.W.EachIs (fun u d => ∃ x, RelV x u ∧ ∀ K G, Dp K G x d) us ds) : ∃ vs, Vals vs us ∧ ∀ K G, DpAll K G vs ds := by
  induction h with
  | nil => exact ⟨[], .nil, fun _ _ => .nil⟩
  | cons a t ih =>
    obtain ⟨vs, h1, h2⟩ := ih
    obtain ⟨x, r, d⟩ := a
    exact ⟨x :: vs, .cons r h1, fun K G => .cons (d K G) (h2 K G)⟩
theorem call_sortDK {X : Cx} (hu : X.A.units + 64 < cLine) (hc : X.calm = true) : CallR X (.builtin "sorted") rSortDK := by
  intro pins s σ H xs us Q I r h
  obtain ⟨a, es, rfl, hd, hs, hz, q⟩ := h
  obtain ⟨u, rfl, rx⟩ := vals1 r
  cases rx
  obtain ⟨z, lo, vs, rel, dd⟩ := dk_of I.hok hd
  obtain ⟨ep, hat⟩ := dd.dictAt
  have hl : vs.length = es.length := rel.length.symm
  have hkeys : vs.map (·.1) = es.map (·.1) := rel.keys.symm
  have emap : (es.map fun p => kD p.1) = (es.map (·.1)).map kD := by rw [List.map_map]; rfl
  have key : ∀ (acc : Array Value), ItemsOf (fun i v => ∃ k x, vs[i]? = some (k, x) ∧ (mixKind X.prog X.w).is k v = true) acc vs.length → ∀ (R : Value → PyData → Prop), (∀ k u, keyIs k u = true → R u (kD k)) →
      PySem.W.EachIs R acc.toList ((es.map (·.1)).map kD) := fun acc hacc R f => by
    refine each_keys (by rw [Array.length_toList, hacc.1, List.length_map, hl]) fun j u k h1 h2 => ?_
    obtain ⟨k', x, e1, e2⟩ := hacc.2 j u (by rw [← Array.getElem?_toList]; exact h1)
    have e3 : (vs.map (·.1))[j]? = some k' := by rw [List.getElem?_map, e1]; rfl
    rw [hkeys, h2] at e3
    cases e3
    exact f k u e2
  refine sorted_any (ds := es.map fun p => kD p.1) (R := fun u d => ∃ x, RelV x u ∧ ∀ K G, Dp K G x d) (fun E' Q' h => ?_) hs (by rw [List.length_map]; exact hz) (by omega) fun h1 p h' tk out n k1 hp k2 hat hlen ho => ?_
  · refine PySem.W.kdu_collect (A := X.A.in1) (PySem.W.kdl_dict (knd := mixKind X.prog X.w) (kvs := vs) (ep := ep) lo) (I.ok.hd hc) hat (by rw [hl]; exact hz) fun h' tk acc hk hacc => ?_
    exact h acc.toList h' tk hk (emap ▸ key acc hacc _ fun k u e => rel_kD e) (emap ▸ key acc hacc _ fun k u e => reads_kD e)
  · obtain ⟨ws, w1, w2⟩ := each_dk ho
    have I1 : Inv X pins σ H { s with heap := h1, toks := tk } := I.kept k1
    exact ⟨.ref p, upd H p (.lst ws), I1.laid (t' := tk) k2 hp ⟨by rw [w1.length, hlen, List.length_map]; exact hz, out, n, w1, hat⟩, rfl, q p ws (I1.hok.fresh hp) w2⟩
def mSortDK (j : Nat) : Env → W (List PyData) := fun env => do
  let kvs ← asDR (gt env j)
  W.need (sortable (kvs.map fun p => kD p.1) ∧ kvs.length ≤ sizeLine)
  pure (sortD (kvs.map fun p => kD p.1))
theorem kvd_keys {G : Hp} : ∀ {es : List (Key × V)} {kvs : List (Key × PyData)}, KVD K G es kvs → (es.map fun p => kD p.1) = kvs.map fun p => kD p.1
  | _, _, .nil => rfl
  | _, _, .cons a r => by simp only [List.map_cons, a.1, kvd_keys r]
theorem tjl_sortDK {j : Nat} : TJL K (tCB rSortDK (tCons (tVar j) tNil)) (mSortDK j) := fun B G env σ H ok Q q => by
  obtain ⟨kvs, hj, q⟩ := asDR_run q
  obtain ⟨p, es, h1, h2, h3⟩ := ok.dkAt hj
  refine ⟨_, sg_some h1, p, es, rfl, h3 G H (Ex.refl _) ok.fra, by rw [kvd_keys h2]; exact q.1.1, by rw [kvd_len h2]; exact q.1.2, fun t ws ht hw => ?_⟩
  exact q.2 t ws G _ (Ex.refl _) (ok.fra.lay ht) (ok.fra.free ht) (fresh_back ok.fra.ex ht) upd_same (by rw [← kvd_keys h2]; exact hw K G)
/-! isinstance -/
def tyN : PyData → String
  | .none => "NoneType"
  | .bool _ => "bool"
  | .int _ => "int"
  | .str _ => "str"
  | .list _ => "list"
  | .tuple _ => "tuple"
  | .dict _ => "dict"
inductive Cl where
  | bool | int | str | list | tuple
def Cl.nm : Cl → String
  | .bool => "bool" | .int => "int" | .str => "str" | .list => "list" | .tuple => "tuple"
def isiD : Cl → PyData → Bool
  | .bool, .bool _ => true
  | .int, .int _ => true
  | .int, .bool _ => true
  | .str, .str _ => true
  | .list, .list _ => true
  | .tuple, .tuple _ => true
  | _, _ => false
theorem kit_isi (c : Cl) (d : PyData) (hd : ∀ z, d ≠ .dict z) : kitB (tyN d) c.nm = some (isiD c d) := by
  cases c <;> cases d <;> first | (exact absurd rfl (hd _)) | (simp only [tyN, Cl.nm, isiD]; decide +kernel)
theorem tyX_of {G H : Hp} {v : V} {d : PyData} (e : Ex G H) (h : Dp K G v d) : TyX K H v (.type (tyN d)) := by
  cases h with
  | non => exact .base .non
  | bl b => exact .base (.bl b)
  | int i => exact .base (.int i)
  | str x => exact .base (.str x)
  | lst a b =>
    rcases ex_l e a with (h | ⟨o, h⟩) | ⟨o, its, n, h1, h2, _⟩
    · exact .base (.lst h)
    · exact .base (.frz h)
    · exact .kList h1 h2
  | tup a b =>
    rcases ex_t e a with (h | ⟨o, h⟩) | ⟨o, its, n, h1, h2, _⟩
    · exact .base (.tup h)
    · exact .fTuple h
    · exact .kTuple h1 h2
def mIsi (c : Cl) (m : Env → W PyData) : Env → W PyData := fun env => do pure (.bool (isiD c (← m env)))
theorem dp_noD {G : Hp} {v : V} {d : PyData} (h : Dp K G v d) : ∀ z, d ≠ .dict z := by cases h <;> intro z e <;> cases e
theorem tj_isi {c : Cl} (h : TJ K te m) : TJ K (tCB (rIsi K) (tCons te (tCons (tC (.ty c.nm)) tNil))) (mIsi c m) := fun B G env σ H ok Q q =>
  h B G env σ H ok _ ((m env).mono (fun d q1 v G1 H1 e1 f1 d1 => ⟨v, _, _, _, isiD c d, rfl, .ty c.nm, tyX_of f1.ex d1, kit_ty (kit_isi c d (dp_noD d1)), q1 _ G1 H1 e1 f1 (.bl _)⟩) q)
end
end Z
namespace Z
variable [PoC]
open PySem PySem.Spec PyProof.Rows L2
open Evl (Ex fresh_back)
/-! ### expressions that change boxes -/
def TJM (K : PySem.W.Frag) (te : TE) (m : Env → W (PyData × Env)) : Prop :=
  ∀ (B : Ba) (G : Hp) (fps : Fps) (env : Env) (σ : L2.St) (H : Hp), Ok K B G fps env σ H → ∀ Q : VK,
    ((m env).run fun r => ∀ v G' fps' H', Ex G G' → Ok K B G' fps' r.2 σ H' → Dp K G' v r.1 → Q v H') → te σ H Q
def TJLM (K : PySem.W.Frag) (te : TE) (m : Env → W (List PyData × Env)) : Prop :=
  ∀ (B : Ba) (G : Hp) (fps : Fps) (env : Env) (σ : L2.St) (H : Hp), Ok K B G fps env σ H → ∀ Q : VK,
    ((m env).run fun r => ∀ p vs G' fps' H', Ex G G' → Ok K B G' fps' r.2 σ H' → B.H p = none → G' p = none → (∀ i, fg fps' i ≠ some p) → H' p = some (.lst vs) → DpAll K G' vs r.1 → Q (.ref p) H') → te σ H Q
section
variable {M : Ba → Prop} {K : PySem.W.Frag} {te ta tb : TE} {m ma mb : Env → W PyData}
theorem Ok.frzO {B : Ba} {G H : Hp} {fps : Fps} {env : Env} {σ : L2.St} {p : Addr} {vs : List V} (ok : Ok K B G fps env σ H) (h0 : B.H p = none) (hg : G p = none) (hf : ∀ i, fg fps i ≠ some p) (hp : H p = some (.lst vs)) :
    Ok K B (upd G p (.lst vs)) fps env σ H ∧ Ex G (upd G p (.lst vs)) := by
  obtain ⟨f1, e1⟩ := frz_fra ok.fra h0 hp hg
  refine ⟨⟨f1, ok.lE, ok.lF, fun i => ?_, ok.dis⟩, e1⟩
  refine (ok.sl i).mono e1 (fun q hq b => ⟨?_, b.2⟩) (fun _ _ => rfl)
  have ne : q ≠ p := fun z => hf i (by rw [← z]; exact hq)
  rw [upd_ne ne]
  exact b.1
def mFrzM (ml : Env → W (List PyData × Env)) : Env → W (PyData × Env) := fun env => do let r ← ml env; pure (.list r.1, r.2)
theorem tjm_frz {ml : Env → W (List PyData × Env)} (h : TJLM K te ml) : TJM K te (mFrzM ml) := fun B G fps env σ H ok Q q =>
  h B G fps env σ H ok Q ((ml env).mono (fun r k p vs G' fps' H' e ok' h0 hg hf hp hd => by
    obtain ⟨ok2, e2⟩ := ok'.frzO h0 hg hf hp
    exact k _ _ fps' H' (e.trans e2) ok2 (.lst (Or.inl (Or.inl upd_same)) (dpa_ex e2 hd))) q)
def mOf (m : Env → W PyData) : Env → W (PyData × Env) := fun env => do let d ← m env; pure (d, env)
theorem tjm_of (h : TJ K te m) : TJM K te (mOf m) := fun B G fps env σ H ok Q q =>
  ok.ev h ((m env).mono (fun d k v G' H' e ok' dv => k v G' fps H' e ok' dv) q)
/-! built-ins of one argument -/
theorem Ok.stp {B : Ba} {G H G' H' : Hp} {fps : Fps} {env : Env} {σ : L2.St} (ok : Ok K B G fps env σ H) (s : Stp G H G' H') : Ok K B G' fps env σ H' ∧ Ex G G' := by
  cases s with
  | same => exact ⟨ok, Ex.refl _⟩
  | new hp => exact ok.alloc hp
def mCBM (f : List PyData → W PyData) (mm : Env → W (PyData × Env)) : Env → W (PyData × Env) := fun env => do let a ← mm env; let d ← f [a.1]; pure (d, a.2)
def mCBLM (f : List PyData → W (List PyData)) (mm : Env → W (PyData × Env)) : Env → W (List PyData × Env) := fun env => do let a ← mm env; let d ← f [a.1]; pure (d, a.2)
theorem tjm_cb {r : List V → Hp → VK → Prop} {f : List PyData → W PyData} {mm : Env → W (PyData × Env)} (hr : CJ K r f) (h : TJM K te mm) : TJM K (tCB r (tCons te tNil)) (mCBM f mm) := fun B G fps env σ H ok Q q =>
  h B G fps env σ H ok _ ((mm env).mono (fun a k v G1 fps1 H1 e1 ok1 d1 => hr G1 H1 [v] [a.1] ok1.fra.ex (.cons d1 .nil) Q ((f [a.1]).mono (fun d k2 w G2 H2 st d2 => k2 w G2 fps1 H2 (e1.trans (ok1.stp st).2) (ok1.stp st).1 d2) k)) q)
theorem tjlm_cb {r : List V → Hp → VK → Prop} {f : List PyData → W (List PyData)} {mm : Env → W (PyData × Env)} (hr : CJL K r f) (h : TJM K te mm) : TJLM K (tCB r (tCons te tNil)) (mCBLM f mm) := fun B G fps env σ H ok Q q =>
  h B G fps env σ H ok _ ((mm env).mono (fun a k v G1 fps1 H1 e1 ok1 d1 => hr G1 H1 [v] [a.1] ok1.fra.ex (.cons d1 .nil) Q ((f [a.1]).mono (fun d k2 p ws hp d2 =>
    k2 p ws G1 fps1 _ e1 (ok1.lay hp) (ok1.fra.free hp) (fresh_back ok1.fra.ex hp) (fun i => ok1.fps_ne hp i) upd_same d2) k)) q)
/-! pops -/
def mPop (i : Nat) : Env → W (PyData × Env) := fun env => do
  let ds ← asL (gt env i)
  match ds.getLast? with
  | some d => pure (d, env.set i (.lst ds.dropLast))
  | none => W.fail
theorem tjm_pop {i : Nat} : TJM K (tBM0 K "list" rPop (tVar i)) (mPop i) := fun B G fps env σ H ok Q q => by
  obtain ⟨ds, hg, q⟩ := asL_run q
  obtain ⟨p, vs, h1, h2, h3, h4, h5⟩ := ok.lstAt hg
  cases c : ds.getLast? with
  | none => simp only [c] at q; exact q.elim
  | some d =>
    simp only [c] at q
    rw [List.getLast?_eq_getElem?, ← dpa_len h5] at c
    obtain ⟨v, c1, c2⟩ := dpa_get h5 c
    exact ⟨_, sg_some h2, tyV_lst h4, p, vs, v, rfl, rfl, h4, c1, q v G fps _ (Ex.refl _) (ok.wrB h1 (s := .lst ds.dropLast) ⟨p, _, rfl, rfl, h3, upd_same, dpa_dropLast h5⟩) c2⟩
def mPopAt (i : Nat) (m : Env → W PyData) : Env → W (PyData × Env) := fun env => do
  let ds ← asL (gt env i)
  match ← m env with
  | .int k => match ds[k.toNat]? with
    | some d => do W.need (0 ≤ k ∧ k < 2 ^ 63); pure (d, env.set i (.lst (ds.eraseIdx k.toNat)))
    | none => W.fail
  | _ => W.fail
theorem tjm_popAt {i : Nat} (h : TJ K te m) : TJM K (tBM K "list" rPopAt (tVar i) (tCons te tNil)) (mPopAt i m) := fun B G fps env σ H ok Q q => by
  obtain ⟨ds, hg, q⟩ := asL_run q
  obtain ⟨p, vs, h1, h2, h3, h4, h5⟩ := ok.lstAt hg
  refine ⟨_, sg_some h2, tyV_lst h4, ok.ev h ((m env).mono (fun d k v G' H' e ok' dv => ?_) q)⟩
  obtain ⟨p', vs', h1', h2', h3', h4', h5'⟩ := ok'.lstAt hg
  rw [h1] at h1'
  cases h1'
  cases d with
  | int x =>
    cases dv
    cases c : ds[x.toNat]? with
    | none => simp only [c] at k; exact k.elim
    | some d =>
      simp only [c] at k
      obtain ⟨v, c1, c2⟩ := dpa_get h5' c
      have hl : x.toNat < vs'.length := (List.getElem?_eq_some_iff.mp c1).1
      exact ⟨p, vs', x, x.toNat, v, rfl, rfl, h4', by have := k.1.1; omega, k.1.2, seqIx k.1.1 hl, c1, k.2 v G' fps _ e (ok'.wrB h1 (s := .lst (ds.eraseIdx x.toNat)) ⟨p, _, rfl, rfl, h3', upd_same, dpa_erase _ h5'⟩) c2⟩
  | _ => exact k.elim
/-! a comprehension whose element changes boxes -/
section
variable {B : Ba} {G H G' H' : Hp} {fps fps' : Fps} {env env' : Env} {σ σ' : L2.St}
def muOf (B : Ba) (fps : Fps) : List Addr := fpsOf B.ops ++ fps.filterMap id
theorem mem_muOf (ok : Ok K B G fps env σ H) {a : Addr} (h : a ∈ muOf B fps) : a ∈ B.mu ∨ B.H a = none := by
  rcases List.mem_append.mp h with h | h
  · exact fpsOf_mu ok.fra a h
  · obtain ⟨f, hf, e⟩ := List.mem_filterMap.mp h
    obtain ⟨i, hi, e2⟩ := List.getElem_of_mem hf
    have : fg fps i = some a := by
      unfold fg
      rw [List.getD_eq_getElem?_getD, List.getElem?_eq_getElem hi, e2]
      exact e
    exact ((ok.sl i).box this).1.2.1
theorem SlOk.base {B2 : Ba} {f : Option Addr} {s : Sl} {o : Option V} (hops : B2.ops = B.ops) (hb : ∀ p, f = some p → BoxP B G p → BoxP B2 G p) (h : SlOk K B G H f s o) : SlOk K B2 G H f s o := by
  cases s with
  | any => exact h
  | imm d => exact h
  | lst ds => obtain ⟨p, vs, h1, h2, h3, h4⟩ := h; exact ⟨p, vs, h1, h2, hb p h1 h3, h4⟩
  | dK ds => obtain ⟨p, vs, h1, h2, h3, h4⟩ := h; exact ⟨p, vs, h1, h2, hb p h1 h3, h4⟩
  | dT ds => obtain ⟨p, vs, h1, h2, h3, h4⟩ := h; exact ⟨p, vs, h1, h2, hb p h1 h3, h4⟩
  | rK k => exact h
  | rT k => exact h
  | opq k => obtain ⟨h1, q, h2, h3⟩ := h; exact ⟨h1, q, by rw [hops]; exact h2, h3⟩
  | adr k => exact h
theorem fg_mem {i : Nat} {p : Addr} (h : fg fps i = some p) : p ∈ fps.filterMap id := by
  unfold fg at h
  rw [List.getD_eq_getElem?_getD] at h
  cases e : fps[i]? with
  | none => rw [e] at h; cases h
  | some o => rw [e] at h; exact List.mem_filterMap.mpr ⟨o, List.mem_of_getElem? e, h⟩
theorem Ok.reb (ok : Ok K B G fps env σ H) : Ok K (bas G H (muOf B fps) B.ops) G fps env σ H := by
  refine ⟨ok.fra.at _ fun q hq a ha => List.mem_append.mpr (.inl (mem_fpsOf.mpr ⟨q, hq, ha⟩)), ok.lE, ok.lF, fun i => ?_, ok.dis⟩
  exact SlOk.base (B := B) (B2 := bas G H (muOf B fps) B.ops) rfl (fun p hp b => ⟨b.1, .inl (List.mem_append.mpr (.inr (fg_mem hp))), b.2.2⟩) (ok.sl i)
theorem Ok.unreb (ok : Ok K B G fps env σ H) (ok2 : Ok K (bas G H (muOf B fps) B.ops) G' fps' env' σ' H') : Ok K B G' fps' env' σ' H' := by
  refine ⟨ok.fra.back (fun a h => mem_muOf ok h) ok2.fra, ok2.lE, ok2.lF, fun i => ?_, ok2.dis⟩
  refine SlOk.base (B := bas G H (muOf B fps) B.ops) (B2 := B) rfl (fun p hp b => ⟨b.1, ?_, b.2.2⟩) (ok2.sl i)
  rcases b.2.1 with z | z
  · exact mem_muOf ok z
  · exact .inr (ok.fra.free z)
theorem Ok.wipe (ok : Ok K B G fps env σ H) : ∀ ws : List Nat, ∃ fps', Ok K B G fps' (wipeE env ws) (wipe σ ws) H ∧ ∀ i p, fg fps' i = some p → fg fps i = some p
  | [] => ⟨fps, ok, fun _ _ h => h⟩
  | w :: ws => by
    obtain ⟨f1, ok1, h1⟩ := Ok.wipe ok ws
    refine ⟨f1.set w none, ok1.put (f := none) (s := .any) (o := none) rfl (fun p j z => by cases z), fun i p h => ?_⟩
    rw [fg_set] at h
    split at h
    · cases h
    · exact h1 i p h
theorem wipe_none : ∀ (ws : List Nat) (σ : L2.St) (i : Nat), i ∈ ws → sg (wipe σ ws) i = none
  | [], σ, i, h => by simp at h
  | w :: ws, σ, i, h => by
    show sg ((wipe σ ws).set w none) i = none
    rw [sg_set]
    by_cases c : w = i ∧ i < (wipe σ ws).length
    · rw [if_pos c]
    · rw [if_neg c]
      rcases List.mem_cons.mp h with e | e
      · subst e
        have : (wipe σ ws).length ≤ i := by
          rcases Nat.lt_or_ge i (wipe σ ws).length with z | z
          · exact absurd ⟨rfl, z⟩ c
          · exact z
        exact getD_out _ _ _ this
      · exact wipe_none ws σ i e
theorem wipe_other : ∀ (ws : List Nat) (σ : L2.St) (i : Nat), i ∉ ws → sg (wipe σ ws) i = sg σ i
  | [], σ, i, h => rfl
  | w :: ws, σ, i, h => by
    show sg ((wipe σ ws).set w none) i = _
    rw [sg_set, if_neg (fun z => h (by rw [z.1]; exact List.mem_cons_self ..))]
    exact wipe_other ws σ i fun z => h (List.mem_cons_of_mem _ z)
theorem Ok.unwipe {ws : List Nat} (ok : Ok K B G fps env (L2.wipe σ ws) H) : Ok K B G fps env σ H := by
  refine ⟨ok.fra, by rw [ok.lE, wipe_length], by rw [ok.lF, wipe_length], fun i => ?_, ok.dis⟩
  have s := ok.sl i
  by_cases c : i ∈ ws
  · rw [wipe_none ws σ i c] at s
    cases e : gt env i with
    | any => rw [e] at s; exact s
    | imm d => rw [e] at s; obtain ⟨_, v, h, _⟩ := s; cases h
    | lst d => rw [e] at s; obtain ⟨p, v, _, h, _⟩ := s; cases h
    | dK d => rw [e] at s; obtain ⟨p, v, _, h, _⟩ := s; cases h
    | dT d => rw [e] at s; obtain ⟨p, v, _, h, _⟩ := s; cases h
    | rK d => rw [e] at s; obtain ⟨_, p, v, h, _⟩ := s; cases h
    | rT d => rw [e] at s; obtain ⟨_, p, v, h, _⟩ := s; cases h
    | opq d => rw [e] at s; obtain ⟨_, q, _, h⟩ := s; cases h
    | adr d => rw [e] at s; obtain ⟨_, v, h, _⟩ := s; cases h
  · rw [wipe_other ws σ i c] at s
    exact s
def lcMM (ws : List Nat) (i : Nat) (me : Env → W (PyData × Env)) : List PyData → Env → W (List PyData × Env)
  | [], env => pure ([], env)
  | d :: r, env => do
    let y ← me (env.set i (.imm d))
    let rest ← lcMM ws i me r (wipeE y.2 ws)
    pure (y.1 :: rest.1, rest.2)
def mLcM (i : Nat) (mi : Env → W (List PyData)) (me : Env → W (PyData × Env)) : Env → W (List PyData × Env) := fun env => do
  let ds ← mi env
  W.need (ds.length ≤ sizeLine)
  lcMM [i] i me ds (wipeE env [i])
theorem tjlm_lc {wi : TI} {i : Nat} {mi : Env → W (List PyData)} {me : Env → W (PyData × Env)} (hi : TJI K wi mi) (he : TJM K te me) : TJLM K (tLc wi (gName i) tYes te [i]) (mLcM i mi me) := fun B G fps env σ H ok Q q =>
  hi _ G env σ H ok.view _ ((mi env).mono (fun ds q1 J G1 H1 e1 f1 wk D hD => by
    obtain ⟨hz, q1⟩ := q1
    have ok1 := ok.back f1
    have hb : B.H D = none := ok1.fra.free hD
    have hno : ∀ p ∈ B.ops, D ∉ p.fp := fun p hp z => ok.fra.opH p hp D z hb
    obtain ⟨fps0, ok0, hf0⟩ := ok1.wipe [i]
    have post := fun (ads : List PyData) (r : List PyData × Env) => ∀ p vs G' fps' H', Ex G G' → Ok K B G' fps' r.2 σ H' → B.H p = none → G' p = none → (∀ i, fg fps' i ≠ some p) → H' p = some (.lst vs) → DpAll K G' vs (ads ++ r.1) → Q (.ref p) H'
    refine ⟨fun n m H => m = ds.length - n ∧ n ≤ ds.length ∧ ∃ Gi fpi ei acc ads, Ex G1 Gi ∧ Ok K B Gi fpi ei (wipe σ [i]) H ∧ H D = some (.lst acc) ∧ Gi D = none ∧ (∀ i, fg fpi i ≠ some D) ∧ DpAll K Gi acc ads ∧ acc.length ≤ n ∧
      (lcMM [i] i me (ds.drop n) ei).run fun r => ∀ p vs G' fps' H', Ex G G' → Ok K B G' fps' r.2 σ H' → B.H p = none → G' p = none → (∀ i, fg fps' i ≠ some p) → H' p = some (.lst vs) → DpAll K G' vs (ads ++ r.1) → Q (.ref p) H',
      ⟨ds.length, rfl, Nat.zero_le _, G1, fps0, _, [], [], Ex.refl _, ok0.lay hD, upd_same, fresh_back f1.ex hD, fun j z => ok0.fps_ne hD j z, .nil, Nat.zero_le _, q1⟩, ?_⟩
    rintro n m H2 ⟨rfl, hn2, Gi, fpi, ei, acc, ads, eGi, oki, hDa, hGD, hfD, hda, hal, hrun⟩
    rcases Nat.lt_or_ge n ds.length with hlt | hge
    · refine .inr ⟨wk.goes n H2 hlt (eGi.trans oki.fra.ex), fun H' => ∃ Gi fpi ei acc ads, Ex G1 Gi ∧ Ok K B Gi fpi ei (wipe σ [i]) H' ∧ H' D = some (.lst acc) ∧ Gi D = none ∧ (∀ i, fg fpi i ≠ some D) ∧ DpAll K Gi acc ads ∧ acc.length ≤ n + 1 ∧
        (lcMM [i] i me (ds.drop (n + 1)) ei).run fun r => ∀ p vs G' fps' H', Ex G G' → Ok K B G' fps' r.2 σ H' → B.H p = none → G' p = none → (∀ i, fg fps' i ≠ some p) → H' p = some (.lst vs) → DpAll K G' vs (ads ++ r.1) → Q (.ref p) H',
        fun H' h => ⟨ds.length - (n + 1), by omega, rfl, hlt, h⟩, fun x H3 hy => ?_⟩
      obtain ⟨G3, d, st, hd, dx⟩ := wk.yields n Gi H2 x H3 hlt eGi oki.fra.ex hy
      obtain ⟨ok3, e3⟩ := oki.stp st
      have hD3 : H3 D = some (.lst acc) ∧ G3 D = none := by
        cases st with
        | same => exact ⟨hDa, hGD⟩
        | new hp =>
          have ne : D ≠ _ := ne_fr (H := H2) (by rw [hDa]; simp) hp
          exact ⟨by rw [upd_ne ne]; exact hDa, by rw [upd_ne ne]; exact hGD⟩
      have hne : H3 D ≠ none := by rw [hD3.1]; simp
      rw [List.drop_eq_getElem_cons hlt, (List.getElem?_eq_some_iff.mp hd).2] at hrun
      have ok4 : Ok K B G3 (fpi.set i none) (ei.set i (.imm d)) ((wipe σ [i]).set i (some x)) H3 := ok3.put (f := none) (s := .imm d) (o := some x) ⟨rfl, x, rfl, dx⟩ (fun p j z => by cases z)
      have hf4 : ∀ j, fg (fpi.set i none) j ≠ some D := fun j z => by
        rw [fg_set] at z
        split at z
        · cases z
        · exact hfD j z
      have hDm : D ∉ muOf B (fpi.set i none) := fun z => by
        rcases List.mem_append.mp z with h | h
        · exact (mem_fpsOf.mp h).elim fun p w => hno p w.1 w.2
        · obtain ⟨f, hf, e⟩ := List.mem_filterMap.mp h
          obtain ⟨j, hj, e2⟩ := List.getElem_of_mem hf
          exact hf4 j (by unfold fg; rw [List.getD_eq_getElem?_getD, List.getElem?_eq_getElem hj, e2]; exact e)
      refine ⟨wipe_set (wipe σ [i]) (List.mem_singleton.mpr rfl) |>.trans (wipe_idem σ [i]), ?_⟩
      show te _ H3 _
      refine he _ G3 _ _ _ H3 ok4.reb _ (W.mono _ (fun y q4 v G5 fp5 H5 e5 ok5r d5 => ?_) hrun)
      have ok5 := ok4.unreb ok5r
      have hD5 : H5 D = some (.lst acc) := ok5r.fra.keep D _ hD3.1 hDm
      have gD5 : G5 D = none := ok5r.fra.new D hne hD3.2
      have hf5 : ∀ j, fg fp5 j ≠ some D := fun j z => by
        rcases ((ok5r.sl j).box z).1.2.1 with w | w
        · exact hDm w
        · exact hne w
      have ok6 := ok5.wrO (o := .lst (acc ++ [v])) ⟨gD5, .inr hb, hno⟩ hf5 (fun _ _ z => by rw [hD5] at z; cases z)
      obtain ⟨fp7, ok7, hf7⟩ := ok6.wipe [i]
      have hw : wipe ((wipe σ [i]).set i (some x)) [i] = wipe σ [i] := (wipe_set (wipe σ [i]) (List.mem_singleton.mpr rfl)).trans (wipe_idem σ [i])
      rw [hw] at ok7
      refine ⟨acc, hD5, by omega, G5, fp7, _, acc ++ [v], ads ++ [y.1], (eGi.trans e3).trans e5, ok7, upd_same, gD5, fun j z => hf5 j (hf7 j D z), dpa_app (dpa_ex (e3.trans e5) hda) (.cons d5 .nil), by simp; omega, ?_⟩
      refine W.mono _ (fun rest q5 => ?_) q4
      simpa [List.append_assoc] using q5
    · have hn3 : n = ds.length := by omega
      subst hn3
      rw [List.drop_eq_nil_of_le (Nat.le_refl _)] at hrun
      refine .inl ⟨wk.stops H2 (eGi.trans oki.fra.ex), ?_⟩
      exact hrun D acc Gi fpi H2 (e1.trans eGi) oki.unwipe hb hGD hfD hDa (by simpa using hda)) q)
end
/-! statements of these -/
def sAsgM (i : Nat) (m : Env → W (PyData × Env)) : Ms := fun env => do let d ← m env; pure (.nx, d.2.set i (.imm d.1))
theorem tjs_asgM {i : Nat} {m : Env → W (PyData × Env)} (h : TJM K te m) : TJS M K (tAsg te (gName i)) (sAsgM i m) := fun B G fps env σ H ok hm D q =>
  h B G fps env σ H ok _ ((m env).mono (fun d k v G' fps' H' e ok' dv => k G' _ _ H' e (ok'.put (i := i) (f := none) (s := .imm d.1) (o := some v) ⟨rfl, v, rfl, dv⟩ (fun p j z => by cases z))) q)
def sAsgLM (i : Nat) (ml : Env → W (List PyData × Env)) : Ms := fun env => do let ds ← ml env; pure (.nx, ds.2.set i (.lst ds.1))
theorem tjs_asgLM {i : Nat} {ml : Env → W (List PyData × Env)} (h : TJLM K te ml) : TJS M K (tAsg te (gName i)) (sAsgLM i ml) := fun B G fps env σ H ok hm D q =>
  h B G fps env σ H ok _ ((ml env).mono (fun ds k p vs G' fps' H' e ok' h0 hg hf hp dv => k G' _ _ H' e (ok'.put (i := i) (f := some p) (s := .lst ds.1) (o := some (.ref p))
    ⟨p, vs, rfl, rfl, ⟨hg, .inr h0, fun q hq ha => ok.fra.opH q hq p ha h0⟩, hp, dv⟩ (fun p' j z hj => by cases z; exact absurd hj (hf j)))) q)
def sRetM (m : Env → W (PyData × Env)) : Ms := fun env => do let d ← m env; pure (.rt (.im d.1), d.2)
theorem tjs_retM {m : Env → W (PyData × Env)} (h : TJM K te m) : TJS M K (tRet te) (sRetM m) := fun B G fps env σ H ok hm D q =>
  h B G fps env σ H ok _ ((m env).mono (fun d k v G' fps' H' e ok' dv => k G' fps' σ H' e ok' v dv) q)
def sRetLM (ml : Env → W (List PyData × Env)) : Ms := fun env => do let d ← ml env; pure (.rt (.fr d.1), d.2)
theorem tjs_retLM {ml : Env → W (List PyData × Env)} (h : TJLM K te ml) : TJS M K (tRet te) (sRetLM ml) := fun B G fps env σ H ok hm D q =>
  h B G fps env σ H ok _ ((ml env).mono (fun d k p vs G' fps' H' e ok' h0 hg hf hp dv => k G' fps' σ H' e ok' _ ⟨p, vs, rfl, h0, hg, hp, dv⟩) q)
end
end Z
namespace Z
variable [PoC]
open PySem PySem.Spec PyProof.Rows L2
open Evl (Ex fresh_back)
theorem _root_.L2.Room.u65 {k : Nat} {A : Around} (r : Room k A) : A.units + 65 < cLine := by have := r.un; omega
theorem _root_.L2.Room.units1 {k : Nat} {A : Around} (r : Room k A) : A.units + 1 < cLine := by have := r.un; omega
section
variable {M : Ba → Prop} {K : PySem.W.Frag} {ta : TA} {mr : Env → W (List PyData)}
def fNeg : PyData → W PyData
  | .int i => pure (.int (-i))
  | _ => W.fail
theorem uj_neg : UJ K (rU fun i => .int (-i)) fNeg := fun G H x dx ex hx Q q => by
  cases dx with
  | int i =>
    cases hx
    exact ⟨i, rfl, q _ G H .same (.int _)⟩
  | _ => exact q.elim
def sPar (i j : Nat) (mr : Env → W (List PyData)) : Ms := fun env => do
  match ← mr env with
  | [a, b] => pure (.nx, (env.set i (.imm a)).set j (.imm b))
  | _ => W.fail
theorem tjs_par {i j : Nat} (h : TJD K ta mr) : TJS M K (tPar i j ta) (sPar i j mr) := fun B G fps env σ H ok hm D q =>
  h _ G env σ H ok.view _ ((mr env).mono (fun ds k vs G' H' e f dv => by
    have ok' := ok.back f
    cases dv with
    | nil => exact k.elim
    | cons a r =>
      cases r with
      | nil => exact k.elim
      | cons b r =>
        cases r with
        | cons _ _ => exact k.elim
        | nil =>
          exact ⟨_, _, rfl, k G' _ _ H' e ((ok'.put (i := i) (f := none) (s := .imm _) (o := some _) ⟨rfl, _, rfl, a⟩ (fun p j z => by cases z)).put (i := j) (f := none) (s := .imm _) (o := some _) ⟨rfl, _, rfl, b⟩ (fun p j z => by cases z))⟩) q)
end
end Z
namespace Z
open PySem PySem.Spec PyProof.Rows L2
open Evl (Ex fresh_back)
theorem int_inj : ∀ xs ys : List Int, xs.map PyData.int = ys.map PyData.int → xs = ys
  | [], [], _ => rfl
  | [], _ :: _, h => by cases h
  | _ :: _, [], h => by cases h
  | x :: xs, y :: ys, h => by
    simp only [List.map_cons, List.cons.injEq, PyData.int.injEq] at h
    rw [h.1, int_inj xs ys h.2]
theorem dp_nums {K : PySem.W.Frag} {S : Hp} : ∀ ns : List Int, DpAll K S (ns.map V.int) (ns.map PyData.int)
  | [] => .nil
  | n :: r => .cons (.int n) (dp_nums (K := K) r)
/-! ### a pile: a list whose head is the script, whose rest are zs -/
section
variable [PoC]
/-- slot 0 holds the pile that stands at p -/
def Pst (p a : Addr) (ns : List Int) (fps : Fps) (env : Env) (H : Hp) : Prop :=
  ∃ zs : List Int, fg fps 0 = some p ∧ H p = some (.lst (.ref a :: zs.map V.int)) ∧ gt env 0 = .lst (.list (ns.map PyData.int) :: zs.map PyData.int)
def TJP (p a : Addr) (ns : List Int) (K : PySem.W.Frag) (tu : TS) (ms : Ms) : Prop :=
  ∀ (B : Ba) (G : Hp) (fps : Fps) (env : Env) (σ : L2.St) (H : Hp), Ok K B G fps env σ H → Pst p a ns fps env H → ∀ D : Ends,
    ((ms env).run fun r => ∀ G' fps' σ' H', Ex G G' → Ok K B G' fps' r.2 σ' H' → Pst p a ns fps' r.2 H' → FlOk K B D r.1 G' σ' H') → tu D σ H
variable {K : PySem.W.Frag} {te ta tb : TE} {m ma mb : Env → W PyData} {tu tv : TS} {mu mv : Ms} {p a : Addr} {ns : List Int}
section
variable {B : Ba} {G H : Hp} {fps : Fps} {env : Env} {σ : L2.St}
theorem Pst.fra (ps : Pst p a ns fps env H) (ok : Ok K B G fps env σ H) {G' H' : Hp} (f : Fra (bas G H (fpsOf B.ops) B.ops) G' H') : Pst p a ns fps env H' := by
  obtain ⟨zs, h1, h2, h3⟩ := ps
  obtain ⟨b, nn, hr⟩ := (ok.sl 0).box h1
  refine ⟨zs, h1, f.keep p _ h2 fun z => ?_, h3⟩
  obtain ⟨q, hq, ha⟩ := mem_fpsOf.mp z
  exact b.2.2 q hq ha
theorem Ok.evP (ok : Ok K B G fps env σ H) (ps : Pst p a ns fps env H) (h : TJ K te m) {Q : VK} (q : (m env).run fun d => ∀ v G' H', Ex G G' → Ok K B G' fps env σ H' → Pst p a ns fps env H' → Dp K G' v d → Q v H') : te σ H Q :=
  h _ G env σ H ok.view Q ((m env).mono (fun d k v G' H' e f dv => k v G' H' e (ok.back f) (ps.fra ok f) dv) q)
end
theorem Pst.put {fps : Fps} {env : Env} {H : Hp} {i : Nat} {s : Sl} {f : Option Addr} (ps : Pst p a ns fps env H) (hi : i ≠ 0) : Pst p a ns (fps.set i f) (env.set i s) H := by
  obtain ⟨zs, h1, h2, h3⟩ := ps
  refine ⟨zs, ?_, h2, ?_⟩
  · rw [fg_set, if_neg (fun z => hi z.1)]; exact h1
  · rw [gt_set, if_neg (fun z => hi z.1)]; exact h3
theorem tjp_asg {i : Nat} (hi : i ≠ 0) (h : TJ K te m) : TJP p a ns K (tAsg te (gName i)) (sAsg i m) := fun B G fps env σ H ok ps D q =>
  ok.evP ps h ((m env).mono (fun d k v G' H' e ok' ps' dv => k G' _ _ H' e (ok'.put (i := i) (f := none) (s := .imm d) (o := some v) ⟨rfl, v, rfl, dv⟩ (fun p j z => by cases z)) (ps'.put hi)) q)
def sSetP (k : Nat) (m : Env → W PyData) : Ms := fun env => do
  let ds ← asL (gt env 0)
  match ← m env with
  | .int z => do W.need (k < ds.length); pure (.nx, env.set 0 (.lst (ds.set k (.int z))))
  | _ => W.fail
theorem tjp_set {k : Nat} (hk : k ≠ 0) (h : TJ K te m) : TJP p a ns K (tAsg te (gSub (tVar 0) (tC (.int k)) rSetL)) (sSetP k m) := fun B G fps env σ H ok ps D q => by
  obtain ⟨ds, hg, q⟩ := asL_run q
  refine ok.evP ps h ((m env).mono (fun d k1 v G1 H1 e1 ok1 ps1 dv => ?_) q)
  cases d with
  | int z =>
    cases dv
    obtain ⟨zs, g1, g2, g3⟩ := ps1
    obtain ⟨p', vs, h1, h2, h3, h4, h5⟩ := ok1.lstAt hg
    rw [g1] at h1
    cases h1
    rw [g2] at h4
    cases h4
    rw [g3] at hg
    cases hg
    obtain ⟨j, rfl⟩ : ∃ j, k = j + 1 := ⟨k - 1, by omega⟩
    have kl := k1.1
    have hix : ixN (V.ref a :: zs.map V.int).length ((j + 1 : Nat) : Int) = some (j + 1) := by
      unfold ixN
      rw [if_pos (by omega), if_pos (by simpa using kl)]
      simp
    have ok2 := ok1.wrB g1 (s := .lst ((.list (ns.map PyData.int) :: zs.map PyData.int).set (j + 1) (.int z))) (o := .lst ((.ref a :: zs.map V.int).set (j + 1) (.int z))) ⟨p, _, rfl, rfl, h3, upd_same, dpa_set (.int z) _ h5⟩
    refine ⟨_, sg_some h2, p, _, ((j + 1 : Nat) : Int), j + 1, rfl, rfl, g2, hix, k1.2 G1 _ _ _ e1 ok2 ⟨zs.set j z, g1, ?_, ?_⟩⟩
    · rw [upd_same]; simp [List.map_set]
    · have l0 : 0 < env.length := by
        rcases Nat.lt_or_ge 0 env.length with h | h
        · exact h
        · have : gt env 0 = .any := getD_out env 0 .any h
          rw [this] at g3; cases g3
      rw [gt_set, if_pos ⟨rfl, l0⟩]; simp [List.map_set]
  | _ => exact k1.elim
theorem tjp_seq (h1 : TJP p a ns K tu mu) (h2 : TJP p a ns K tv mv) : TJP p a ns K (tSeq tu tv) (sSeq mu mv) := fun B G fps env σ H ok ps D q =>
  h1 B G fps env σ H ok ps _ ((mu env).mono (fun r k G' fps' σ' H' e ok' ps' => by
    obtain ⟨fl, e1⟩ := r
    cases fl with
    | nx => exact h2 B G' fps' e1 σ' H' ok' ps' D ((mv e1).mono (fun r2 k2 G2 fps2 σ2 H2 e2 ok2 => k2 G2 fps2 σ2 H2 (e.trans e2) ok2) k)
    | bk => exact k G' fps' σ' H' e ok' ps'
    | ct => exact k G' fps' σ' H' e ok' ps'
    | rt v => exact k G' fps' σ' H' e ok' ps') q)
theorem tjp_nil : TJP p a ns K tNext sNil := fun B G fps env σ H ok ps D q => q G fps σ H (Ex.refl _) ok ps
theorem tjp_if {tt : TT} {mt : Env → W Bool} (ht : TJT K tt mt) (h1 : TJP p a ns K tu mu) (h2 : TJP p a ns K tv mv) : TJP p a ns K (tIfS tt tu tv) (sIf mt mu mv) := fun B G fps env σ H ok ps D q =>
  ht _ G env σ H ok.view _ ((mt env).mono (fun b k G' H' e f => by
    have ok' := ok.back f
    have ps' := ps.fra ok f
    cases b with
    | true => exact h1 B G' fps env σ H' ok' ps' D ((mu env).mono (fun r2 k2 G2 fps2 σ2 H2 e2 ok2 => k2 G2 fps2 σ2 H2 (e.trans e2) ok2) k)
    | false => exact h2 B G' fps env σ H' ok' ps' D ((mv env).mono (fun r2 k2 G2 fps2 σ2 H2 e2 ok2 => k2 G2 fps2 σ2 H2 (e.trans e2) ok2) k)) q)
theorem tjp_ret (h : TJ K te m) : TJP p a ns K (tRet te) (sRet m) := fun B G fps env σ H ok ps D q =>
  ok.evP ps h ((m env).mono (fun d k v G' H' e ok' ps' dv => k G' fps σ H' e ok' ps' v dv) q)
/-! what a pile is where its inside does not matter -/
structure PInv (zs : List Int) : Prop where
  len : zs.length = 4
  i1 : 0 ≤ zs.getD 0 0
  i3 : 0 ≤ zs.getD 2 0 ∧ zs.getD 2 0 < 2147483629
def PileOf (a : Addr) (q : Opq) : Prop := q.fp = [q.p] ∧ ∀ H, q.C H ↔ ∃ zs, H q.p = some (.lst (.ref a :: zs.map V.int)) ∧ PInv zs
def PileP (K : PySem.W.Frag) : Prop := ¬ PoC.tz ∧ ∃ (a : Addr) (ns : List Int), ns.length ≤ 63 ∧ SqL K0 PoC.S a (ns.map V.int) ∧ ∀ q, PoC.PO q → PileOf a q
def mNext : List Sl → W Rv
  | [.opq _, .imm (.int n)] => do
    W.need (1 ≤ n ∧ n < 2 ^ 62)
    let x ← W.some fun x => 0 ≤ x ∧ x < n
    pure (.im (.int x))
  | _ => W.fail
theorem next_body {N : List Str} {k : Nat} (hP : PileP K) (h : ∀ p a ns, TJP p a ns K tu mu) (hN : N.length = 2 + k)
    (plain : ∀ (ns zs : List Int) (n : Int), ns.length ≤ 63 → PInv zs → 1 ≤ n ∧ n < 2 ^ 62 → (mu ([.lst (.list (ns.map PyData.int) :: zs.map PyData.int), .imm (.int n)] ++ List.replicate k .any)).run fun r =>
      (∃ x, r.1 = .rt (.im (.int x)) ∧ 0 ≤ x ∧ x < n) ∧ ∃ is, gt r.2 0 = .lst (.list (ns.map PyData.int) :: is.map PyData.int) ∧ PInv is)
    {vs : List V} {H : Hp} {Q : VK} {E : XK} (hs : spF K 2 mNext vs H Q E) : tu { nx := fun _ H' => Q .non H', rt := Q } (start N vs) H := by
  obtain ⟨G, ops, args, f, hl, hp, hrun⟩ := hs
  obtain ⟨_, a, ns, hn, hS, hO⟩ := hP
  match args, hp, hrun with
  | [.opq j, .imm (.int n)], .cons h1 (.cons h2 .nil), hrun =>
    obtain ⟨q, hq, rfl⟩ := h1
    cases h2
    have hqm : q ∈ ops := List.mem_of_getElem? hq
    have ho : ops = [q] := by
      match ops, f.one, hqm with
      | [x], _, hm => simp at hm; rw [hm]
    subst ho
    obtain ⟨hfp, hC⟩ := hO q (f.po q hqm)
    obtain ⟨hc, hg⟩ := f.ops q hqm
    obtain ⟨zs, e1, e2⟩ := (hC H).mp hc
    have gn : G q.p = none := (hg q.p (by rw [hfp]; simp)).1
    have f1 : Fra (bas G H [q.p] []) G H := ⟨f.ex, Ex.refl _, fun _ _ e _ => e, fun _ e => e, fun _ _ e => e, fun q hq => (by cases hq), fun q hq => (by cases hq), fun q hq => (by cases hq), Nat.zero_le _, f.st, f.cl, f.tu⟩
    have dl : Dp K G (.ref a) (.list (ns.map PyData.int)) := dp_ex f.st (.lst hS (dp_nums (K := K) ns))
    have hk : k + 2 = N.length := by omega
    have ok : Ok K (bas G H [q.p] []) G ([some q.p, none] ++ List.replicate k none) ([.lst (.list (ns.map PyData.int) :: zs.map PyData.int), .imm (.int n)] ++ List.replicate k .any) (start N [.ref q.p, .int n]) H := by
      refine ⟨f1, by simp [L2.start]; omega, by simp [L2.start]; omega, fun i => ?_, fun i j p hi hj => ?_⟩
      · have eN : N.length - 2 = k := by omega
        match i with
        | 0 =>
          refine ⟨q.p, .ref a :: zs.map V.int, rfl, rfl, ⟨gn, .inl (by simp), fun q hq => by cases hq⟩, e1, .cons dl (dp_nums (K := K) _)⟩
        | 1 => exact ⟨rfl, .int n, rfl, .int n⟩
        | i + 2 =>
          have e3 : fg ([some q.p, none] ++ List.replicate k none) (i + 2) = none := by show (List.replicate k none).getD i none = none; exact getD_rep
          have e4 : gt ([.lst (.list (ns.map PyData.int) :: zs.map PyData.int), .imm (.int n)] ++ List.replicate k .any) (i + 2) = .any := by show (List.replicate k Sl.any).getD i .any = .any; exact getD_rep
          rw [e3, e4]
          exact rfl
      · have z : ∀ i, fg ([some q.p, none] ++ List.replicate k none) i = some p → i = 0 := fun i h => by
          match i with
          | 0 => rfl
          | 1 => cases h
          | i + 2 =>
            have e3 : fg ([some q.p, none] ++ List.replicate k none) (i + 2) = none := by show (List.replicate k none).getD i none = none; exact getD_rep
            rw [e3] at h; cases h
        rw [z i hi, z j hj]
    refine h q.p a ns _ G _ _ _ H ok ⟨zs, rfl, e1, rfl⟩ _ ((mu _).mono (fun r k1 G' fps' σ' H' e ok' ps' => ?_) (plain ns zs n hn e2 hrun.1))
    obtain ⟨⟨x, rx, x0, x1⟩, is, gi, pi⟩ := k1
    obtain ⟨is', w1, w2, w3⟩ := ps'
    have ei : is' = is := by
      rw [gi] at w3
      injection w3 with w3
      injection w3 with _ w3
      exact (int_inj _ _ w3).symm
    subst ei
    rw [rx]
    intro v dv
    have f2 := ok'.fra
    have bx := ((ok'.sl 0).box w1).1
    have hfo : fpsOf [q] = [q.p] := by simp [fpsOf, hfp]
    refine hrun.2 x ⟨x0, x1⟩ v G' H' e ⟨f2.ex, e, fun b o hb hm => f2.keep b o hb (by rw [hfo] at hm; exact hm), f2.trk, f2.new, fun q' hq' => ?_, f.opH, f.po, f.one, f.st, f2.cl, f2.tu⟩ dv
    have : q' = q := by simpa using hq'
    subst this
    refine ⟨(hC H').mpr ⟨_, w2, pi⟩, fun b hb => ⟨?_, ?_⟩⟩
    · rw [hfp] at hb
      have : b = q'.p := by simpa using hb
      subst this
      exact bx.1
    · exact mem_fpsOf.mpr ⟨q', hq', hb⟩
end
/-- no list stands in the written part -/
def isLstC : Value → Bool
  | .type n => n == "list"
  | _ => false
theorem look_mem {a : Addr} {o : Obj} : ∀ {K : PySem.W.Frag}, K.lookup a = some o → (a, o) ∈ K
  | [], h => by cases h
  | (b, u) :: r, h => by
    rw [List.lookup_cons] at h
    split at h
    · rename_i c
      have : a = b := by simpa using c
      cases h; subst this; exact List.mem_cons_self ..
    · exact List.mem_cons_of_mem _ (look_mem h)
def NoL (K : PySem.W.Frag) : Prop := K.all (fun p => !isLstC p.2.cls) = true
abbrev inst0 : PoC := ⟨fun _ => False, fun _ => none, False⟩
theorem only_of {K : PySem.W.Frag} (hL : NoL K) {H : Hp} {a : Addr} {xs : List V} (hS : SqL K H a xs) : ∃ G : Hp, Ex G H ∧ (∀ b, H b = none → G b = none) ∧ SqL K0 G a xs ∧ @NFz inst0 G := by
  rcases hS with h | h
  · refine ⟨fun b => if b = a then H a else none, fun b o e => ?_, fun b e => ?_, .inl ?_, fun b u e => ?_⟩
    · by_cases c : b = a
      · subst c; simpa using e
      · simp [c] at e
    · by_cases c : b = a
      · subst c; simpa using e
      · exact if_neg c
    · rcases h with h | ⟨o, h⟩
      · exact .inl (by simpa using h)
      · exact .inr ⟨o, by simpa using h⟩
    · by_cases c : b = a
      · subst c
        simp only [if_true] at e
        rcases h with h | ⟨o, h⟩
        · rw [h] at e; cases e; trivial
        · rw [h] at e; cases e; trivial
      · simp [c] at e
  · obtain ⟨o, its, n, h1, h2, _⟩ := h
    have h3 := (List.all_eq_true.mp hL) _ (look_mem h1)
    rw [h2] at h3
    cases h3
/-! ### the law's own body: it makes the pile, then the rest -/
abbrev pilI (a : Addr) (S : Hp) : PoC := ⟨PileOf a, S, False⟩
def Pix (K : PySem.W.Frag) (ns : List Int) : Type := { x : Addr × Hp // SqL K0 x.2 x.1 (ns.map V.int) }
abbrev Pix.I {K : PySem.W.Frag} {ns : List Int} (i : Pix K ns) : PoC := pilI i.1.1 i.1.2
theorem Pix.P {K : PySem.W.Frag} {ns : List Int} (hn : ns.length ≤ 63) (i : Pix K ns) : @PileP i.I K := ⟨id, i.1.1, ns, hn, i.2, fun _ h => h⟩
theorem pss_ex {X : Cx} {ss : List Stmt} {I : Type} {t : I → TS} (h : ∀ i, PSs X ss (t i)) : PSs X ss (fun D σ H => ∃ i, t i D σ H) := ⟨fun pins s σ H D J q => q.elim fun i q => (h i).run pins s σ H D J q⟩
def NoTp (H : Hp) : Prop := ∀ b xs, H b ≠ some (.tup xs)
theorem noTp_of {H : Hp} (h : Only H) : NoTp H := fun b xs e => by
  rcases h b with z | ⟨o, ys, z⟩ <;> rw [e] at z <;> cases z
def spLaw (K : PySem.W.Frag) : Sp := fun vs H Q _ => ∃ (a : Addr) (ns : List Int), vs = [.ref a] ∧ (SqL K H a (ns.map V.int) ∧ NoTp H) ∧ ns.length ≤ 63 ∧ ∀ H', Q (.bl true) H'
theorem law_body {K : PySem.W.Frag} (hL : NoL K) {N : List Str} {k : Nat} {te : TE} {ml : Env → W (List PyData)} {ns : List Int} {tr : Pix K ns → TS} {ms : Ms} (hN : N.length = 2 + k) (h1 : @TJL inst0 K te ml) (h2 : ∀ i : Pix K ns, @TJS i.I Tight K (tr i) ms)
    {a : Addr} {H : Hp} {Q : VK} (hS : SqL K H a (ns.map V.int) ∧ NoTp H) (q : ∀ H', Q (.bl true) H')
    (p1 : (ml (.imm (.list (ns.map PyData.int)) :: List.replicate (k + 1) .any)).run fun ds => ∃ is, ds = .list (ns.map PyData.int) :: is.map PyData.int ∧ PInv is)
    (p2 : (ms ([.imm (.list (ns.map PyData.int)), .opq 0] ++ List.replicate k .any)).run fun r => r.1 = .rt (.im (.bool true))) :
    (tSeq (tAsg te (gName 1)) fun D σ H => ∃ i, tr i D σ H) { nx := fun _ H' => Q .non H', rt := Q } (start N [.ref a]) H := by
  obtain ⟨G, eG, nG, sG, cG⟩ := only_of hL hS.1
  have dG : Dp K G (.ref a) (.list (ns.map PyData.int)) := .lst sG (dp_nums (K := K) ns)
  letI := inst0
  have f0 : Fra (bas G H [] []) G H := ⟨eG, Ex.refl _, fun _ _ e _ => e, fun _ e => e, fun _ _ e => e, fun q hq => (by cases hq), fun q hq => (by cases hq), fun q hq => (by cases hq), Nat.zero_le _, fun _ _ h => (by cases h), cG, fun b xs e => (hS.2 b xs e).elim⟩
  have eN : N.length - 1 = k + 1 := by omega
  have est : start N [.ref a] = some (.ref a) :: List.replicate (k + 1) none := by unfold L2.start; simp [eN]
  have sgr : ∀ {o : Option V} (i : Nat), sg (o :: List.replicate (k + 1) none) (i + 1) = none := fun i => by show (List.replicate (k + 1) none).getD i none = none; exact getD_rep
  have ok0 : ROk K (bas G H [] []) G (.imm (.list (ns.map PyData.int)) :: List.replicate (k + 1) .any) (start N [.ref a]) H := by
    refine ⟨f0, by rw [est]; simp, fun i => ?_⟩
    rw [est]
    match i with
    | 0 => exact ⟨_, rfl, dG⟩
    | i + 1 =>
      have e4 : gt (.imm (.list (ns.map PyData.int)) :: List.replicate (k + 1) .any) (i + 1) = .any := by show (List.replicate (k + 1) Sl.any).getD i .any = .any; exact getD_rep
      rw [e4]; exact trivial
  refine h1 _ G _ _ H ok0 _ ((ml _).mono (fun ds k1 p vs G1 H1 e1 f1 hp0 hg1 hp1 dv => ?_) p1)
  obtain ⟨is, rfl, hi⟩ := k1
  cases dv with
  | cons d0 dr =>
    obtain ⟨a1, xs, rfl, s1, s2⟩ := dp_lst d0
    have nums : ∀ {vs : List V} {is : List Int}, DpAll K G1 vs (is.map PyData.int) → vs = is.map V.int := by
      intro vs is
      induction is generalizing vs with
      | nil => intro h; cases h; rfl
      | cons i r ih => intro h; cases h with | cons a b => cases a; rw [ih b]; rfl
    have ex := nums s2
    have er := nums dr
    subst ex
    subst er
    have ex1 : Ex G1 H1 := f1.ex
    have c1 : NFz G1 := f1.cl
    have t1 := f1.tu
    let i : Pix K ns := ⟨(a1, G1), s1⟩
    refine ⟨i, ?_⟩
    letI := i.I
    let qq : Opq := ⟨p, [p], fun H => ∃ zs, H p = some (.lst (.ref a1 :: zs.map V.int)) ∧ PInv zs, fun H H' h _ => by rw [h p (by simp)]; exact id, fun H ⟨_, h, _⟩ b hb => by
      have : b = p := by simpa using hb
      subst this
      rw [h]; simp⟩
    have fB : Fra (bas G1 H1 [p] [qq]) G1 H1 := by
      refine ⟨ex1, Ex.refl _, fun _ _ e _ => e, fun _ e => e, fun _ _ e => e, fun q hq => ?_, fun q hq => ?_, fun q hq => ?_, Nat.le_refl _, Ex.refl _, c1, t1⟩
      · have : q = qq := by simpa using hq
        subst this
        exact ⟨⟨is, hp1, hi⟩, fun b hb => by
          have : b = p := by simpa [qq] using hb
          subst this
          exact ⟨hg1, by simp⟩⟩
      · have : q = qq := by simpa using hq
        subst this
        intro b hb
        have : b = p := by simpa [qq] using hb
        subst this
        show H1 _ ≠ none
        rw [hp1]; exact fun z => by cases z
      · have : q = qq := by simpa using hq
        subst this
        exact ⟨rfl, fun _ => Iff.rfl⟩
    have okB : Ok K (bas G1 H1 [p] [qq]) G1 (List.replicate (2 + k) none) ([.imm (.list (ns.map PyData.int)), .opq 0] ++ List.replicate k .any) ((start N [.ref a]).set 1 (some (.ref p))) H1 := by
      rw [est]
      have es : (some (V.ref a) :: List.replicate (k + 1) (none : Option V)).set 1 (some (.ref p)) = some (.ref a) :: some (.ref p) :: List.replicate k none := by simp [List.replicate_succ]
      rw [es]
      refine ⟨fB, by simp, by simp; omega, fun j => ?_, fun i j b hi _ => ?_⟩
      · have e3 : fg (List.replicate (2 + k) none) j = none := getD_rep
        rw [e3]
        match j with
        | 0 => exact ⟨rfl, _, rfl, dp_ex e1 dG⟩
        | 1 => exact ⟨rfl, qq, rfl, rfl⟩
        | j + 2 =>
          have e4 : gt ([.imm (.list (ns.map PyData.int)), .opq 0] ++ List.replicate k .any) (j + 2) = .any := by show (List.replicate k Sl.any).getD j .any = .any; exact getD_rep
          rw [e4]; exact rfl
      · have e3 : fg (List.replicate (2 + k) none) i = none := getD_rep
        rw [e3] at hi; cases hi
    refine h2 i _ G1 _ _ _ H1 okB rfl _ ((ms _).mono (fun r k2 G' fps' σ' H' e ok' => ?_) p2)
    rw [k2]
    intro v dv
    cases dv
    exact q H'
end Z
namespace Z
open PySem PySem.Spec PyProof.Rows L2
open Evl (Ex fresh_back)
/-! ### enumerate(tuple) -/
theorem enum_newZ {z : Value} {oz : Obj} {Hz : Heap → Prop} (B : Begins z oz Hz) :
    Meets (Builtin.«enumerate.__new__» ⟨[.type "enumerate", z], []⟩) (fun _ R st => Hz st.heap ∧
      R (.ok (.ret (.ref (st.heap.push oz).objs.size))) { st with heap := (st.heap.push oz).push { cls := .type "enumerate", data := .fields #[.none, .bool false, .ref st.heap.objs.size, rawInt 0, .none, .none] } }) :=
  .of_wp fun prg wd Ar R st hh => by
    obtain ⟨p0, g0, d0, k0, o0⟩ := st
    obtain ⟨h1, hh⟩ := hh
    have hs0 := sub_enumerate
    have begun : ∀ {A' : Around} {EE : Value → Shared → Prop} {QQ : Value → Shared → Prop}, QQ (.ref p0.objs.size) ⟨p0.push oz, g0, d0, k0, o0⟩ → wpAny (model prg wd) A' (pyIter z) QQ EE ⟨p0, g0, d0, k0, o0⟩ :=
      fun q => B.iter prg wd _ _ ⟨p0, g0, d0, k0, o0⟩ _ h1 q
    wp_walk using begun
    refine wpAny_stack_any fun _ => wpAny_pure ?_
    split
    · rename_i cc _ _ _ _ _
      cases (cc == Value.type "enumerate") <;> (wp_walk using begun; exact ⟨_, rfl, hh⟩)
    · wp_walk using begun
      exact ⟨_, rfl, hh⟩
theorem enum_callZ {prg : Program} {wd : World} {Ar : Around} {EE : Value → Shared → Prop} {st : Shared} {z : Value} {oz : Obj} {Hz : Heap → Prop} {QQ : Value → Shared → Prop} (B : Begins z oz Hz) (hz : Hz st.heap)
    (k : ∀ h', IsEnum h' (st.heap.objs.size + 1) st.heap.objs.size 0 .none → h'.get? st.heap.objs.size = some oz → (∀ b o, st.heap.get? b = some o → h'.get? b = some o) → QQ (.ref (st.heap.objs.size + 1)) { st with heap := h' }) :
    wpAny (model prg wd) Ar (call (.type "enumerate") [z]) QQ EE st := by
  have sz : (st.heap.push oz).objs.size = st.heap.objs.size + 1 := Heap.size_push ..
  refine callType_new F.called_enumerate (by decide) (F.typeCall_enumerate_1 _) (F.newCall_enumerate_1 _) (fun obj => F.args_object_init_2 obj _) F.entry_enumerate_new (enum_newZ B) ⟨hz, ?_⟩
  rw [sz]
  have en : IsEnum ((st.heap.push oz).push { cls := .type "enumerate", data := .fields #[.none, .bool false, .ref st.heap.objs.size, rawInt 0, .none, .none] }) (st.heap.objs.size + 1) st.heap.objs.size 0 .none := by
    have e1 := Heap.get?_push_size (st.heap.push oz) (o := { cls := .type "enumerate", data := .fields #[.none, .bool false, .ref st.heap.objs.size, rawInt 0, .none, .none] }) rfl
    rwa [sz] at e1
  exact ⟨⟨_, en, rfl⟩, k _ en (Heap.get?_push_of_some _ (Heap.get?_push_size _ B.free)) fun b o e => Heap.get?_push_of_some _ (Heap.get?_push_of_some _ e)⟩
/-- the tuple at a, each item in a new pair -/
def ItEt (K : PySem.W.Frag) (a : Addr) : It :=
  ⟨fun i H => ∃ (ys : List V) (y : V), SqT K H a ys ∧ ys[i]? = some y, fun i H v H' => ∃ T y, v = .ref T ∧ H T = none ∧ H' = upd H T (.tup [.int (i : Nat), y]) ∧ ∀ ys, SqT K H a ys → ys[i]? = some y, fun i H => ∃ ys : List V, SqT K H a ys ∧ ys.length ≤ i⟩
theorem turn_enumT {P : Program} {w : World} {K : PySem.W.Frag} {elts : List Expr} {kk : Nat} {tpos : Pos} (a e it : Addr) :
    Turn P w K (.Tuple elts kk tpos) (ItEt K a) [e, it] e (fun i h => (∃ old, IsEnum h e it ((i : Nat) : Int) old) ∧ h.IsTupleIter it a i ∧ e ≠ it) where
  mem := by simp
  obj := fun i h st b hb => by
    obtain ⟨⟨o1, q1⟩, ⟨o2, q2, c2, d2⟩, _⟩ := st
    rcases (by simpa using hb : b = e ∨ b = it) with z | z
    · rw [z]; exact ⟨_, q1, fun v q => nomatch q⟩
    · rw [z]; exact ⟨o2, q2, fun v q => by rw [d2] at q; cases q⟩
  keep := fun i h h' st k => ⟨st.1.imp fun old q => k e (by simp) _ q, st.2.1.at fun o q => k it (by simp) o q, st.2.2⟩
  item := by
    intro X hP hw hK hc i pins s σ H E I hf st hg
    subst hP hw hK
    obtain ⟨⟨old, he⟩, hit, hne⟩ := st
    obtain ⟨ys, y, hq, hy⟩ := hg
    obtain ⟨its, rv, pt, hz⟩ := I.tuple hq
    obtain ⟨u, hu, ru⟩ := rv.get hy
    have lte : e < s.heap.objs.size := Heap.lt_size he
    have lti : it < s.heap.objs.size := by obtain ⟨_, q, _⟩ := hit; exact Heap.lt_size q
    have ai : a ≠ it := fun z => by
      obtain ⟨o1, q1, c1, _⟩ := hit
      obtain ⟨o2, q2, c2, _⟩ := pt
      rw [z, q1] at q2
      cases q2
      rw [c1] at c2
      exact absurd c2 (by decide)
    have ea : e ≠ a := fun z => by
      obtain ⟨o2, q2, c2, _⟩ := pt
      rw [← z, he] at q2
      cases q2
      exact absurd (show Value.type "enumerate" = Value.type "tuple" from c2) (by decide)
    have hi : i < its.toArray.size := by
      have := (List.getElem?_eq_some_iff.mp hu).1
      simpa using this
    refine wpAny_pyNext_enum_itemD (Draws.tuple (show X.A.in1.handled = none from I.ok.hd hc) it a ai its.toArray) he ⟨hit, pt⟩ hi hne (by simp [hne, ea]) fun x h' tk hx ho hst hT hsz hk => ?_
    have ex : x = u := by
      have : its[i]? = some x := by simpa using hx
      rw [hu] at this
      cases this; rfl
    subst ex
    refine ⟨_, rfl, wpAny_letOwnedTupleGo_enum (s := { s with heap := h', toks := tk + 1 }) ho fun h'' he' sb => ?_⟩
    have hT2 : h''.get? s.heap.objs.size = some { cls := .type "tuple", data := .seq #[.int i tk, x] } := (sb.2 _ (Nat.ne_of_gt lte)).trans hT
    have nw : ObjOk X.prog X.w (upd H s.heap.objs.size (.tup [.int (i : Nat), y])) h'' s.heap.objs.size (.tup [.int (i : Nat), y]) :=
      ⟨by show 2 ≤ sizeLine; decide, [.int i tk, x], .cons ⟨_, rfl⟩ (.cons ru .nil), ⟨_, hT2, rfl, _, rfl⟩⟩
    have I1 : Inv X pins σ (upd H s.heap.objs.size (.tup [.int (i : Nat), y])) { s with heap := h'', toks := tk + 1 } :=
      I.turnedNew (ch := [e, it]) (fun b ob hb q => (sb.2 b (fun z => hb (by simp [z]))).trans (hk b ob (fun z => hb (by simp [z])) (fun z => hb (by simp [z])) q)) hf (Nat.le_refl _) nw
    refine ⟨.ref s.heap.objs.size, _, I1, rfl, ⟨_, y, rfl, I.hok.fresh (Nat.le_refl _), rfl, fun zs hzs => by rw [I.tuple_inj hzs hq]; exact hy⟩, ⟨⟨x, ?_⟩, hst.1.at fun o q => (sb.2 it (Ne.symm hne)).trans q, hne⟩, fun b hb => ?_⟩
    · have e1 : ((i + 1 : Nat) : Int) = (i : Int) + 1 := by omega
      rw [e1]; exact he'
    · have hb' : b < s.heap.objs.size := by
        rcases (by simpa using hb : b = e ∨ b = it) with z | z <;> rw [z] <;> assumption
      rw [upd_ne (Nat.ne_of_lt hb')]
      exact (hf b hb).1
  done := by
    intro X hP hw hK hc i pins s σ H E I hf st hg
    subst hP hw hK
    obtain ⟨⟨old, he⟩, hit, hne⟩ := st
    obtain ⟨ys, hq, hy⟩ := hg
    obtain ⟨its, rv, pt, hz⟩ := I.tuple hq
    obtain ⟨f0, f1, f2, f3, f4, f5⟩ := hf it (by simp)
    have hl := rv.length
    have ai : a ≠ it := fun z => by
      obtain ⟨o1, q1, c1, _⟩ := hit
      obtain ⟨o2, q2, c2, _⟩ := pt
      rw [z, q1] at q2
      cases q2
      rw [c1] at c2
      exact absurd c2 (by decide)
    have end1 : wpAny (model X.prog X.w) X.A (pyNext (.ref e)) (fun r s1 => r = none ∧ Inv X pins σ H s1) E s := by
      have hT : s.TypeIs (.ref e) "enumerate" := ⟨_, he, rfl⟩
      unfold pyNext
      refine wpAny_bind (wpAny_attempt (wpAny_callSpecial?_slot (name := Str.ofString "__next__") hT F.slot_enumerate_next (wpAny_call_entry F.slot_enumerate_next hT F.entry_enumerate_next ?_ (F.args_enumerate_next_1 _))))
      show wpAny _ _ (field (.ref e) 2 >>= _) _ _ _
      refine wpAny_bind (wpAny_field he rfl (x := .ref it) rfl ?_)
      refine wpAny_bind (wpAny_nextOf_tuple_end (show X.A.in1.handled = none from I.ok.hd hc) hit (show s.heap.IsTuple a its.toArray from pt) (by simp; omega) fun h' x hb hx => ?_)
      obtain ⟨o, ho, hco⟩ := hx
      refine wpAny_bind (wpAny_isInstance (T := "StopIteration") (b := true) ⟨o, ho, hco⟩ isSubtype_stop ?_)
      exact wpAny_pure ⟨rfl, I.turned (t' := s.toks) (fun b o hb2 q => hb b o hb2 q) f0 f1 f3 f4 f5⟩
    exact end1
  self := fun A i s Q E st h => st.1.elim fun _ he => wpAny_pyIter_enum he h
def iEnumZ (K : PySem.W.Frag) (ta : TA) : TI := fun σ H R => ta σ H fun vs H1 => (∃ a xs, vs = [.ref a] ∧ SqL K H1 a xs ∧ R (Ite K a) H1) ∨ ∃ a xs, vs = [.ref a] ∧ SqT K H1 a xs ∧ R (ItEt K a) H1
theorem pi_enumZ {X : Cx} {e : Expr} {ta : TA} {p pos tpos : Pos} {elts : List Expr} {kk : Nat} (hg : Gl X "enumerate") (hm : X.mg "enumerate" = none) (ha : PA X [e] ta) (hs : starEach [e] X.env = [(false, eval e X.env)] := by rfl) :
    PI X (.Tuple elts kk tpos) (.Call (.Name "enumerate" p) [e] [] pos) (iEnumZ X.K ta) := by
  refine ⟨fun pins s σ H R I h => ?_⟩
  refine Call_ (ld_blt I hg hm boot_enumerate (PyProof.Rows.callWith_type1 (thn (ha.run pos pins s σ H _ I h) fun us s1 ⟨vs, H1, I1, r1, q1⟩ => ?_) hs rfl))
  have fresh2 : ∀ b, b ∈ [s1.heap.objs.size + 1, s1.heap.objs.size] → s1.heap.objs.size ≤ b := fun b hb => by
    rcases (by simpa using hb : b = s1.heap.objs.size + 1 ∨ b = s1.heap.objs.size) with z | z <;> omega
  rcases q1 with ⟨a, xs, ex, hq, q⟩ | ⟨a, xs, ex, hq, q⟩
  · subst ex
    obtain ⟨u, rfl, r⟩ := vals1 r1
    cases r
    obtain ⟨its, rv, p', hz⟩ := I1.list hq
    refine call_enumerate_list p'.isList fun h' he hit hsz hk => wpAny_pyIter_enum he ?_
    exact ⟨s1.heap.objs.size + 1, [s1.heap.objs.size + 1, s1.heap.objs.size], _, _, H1, rfl, I1.kept (t' := s1.toks) hk, turn_enum a _ _, ⟨⟨.none, he⟩, hit, Nat.succ_ne_self _⟩, fun b hb => I1.fpOk (fresh2 b hb) (I1.hok.fresh (fresh2 b hb)), q⟩
  · subst ex
    obtain ⟨u, rfl, r⟩ := vals1 r1
    cases r
    obtain ⟨its, rv, p', hz⟩ := I1.tuple hq
    refine enum_callZ (begins_tuple a its.toArray) p' fun h' he hit hk => wpAny_pyIter_enum he ?_
    exact ⟨s1.heap.objs.size + 1, [s1.heap.objs.size + 1, s1.heap.objs.size], _, _, H1, rfl, I1.kept (t' := s1.toks) hk, turn_enumT a _ _, ⟨⟨.none, he⟩, ⟨_, hit, rfl, rfl⟩, Nat.succ_ne_self _⟩, fun b hb => I1.fpOk (fresh2 b hb) (I1.hok.fresh (fresh2 b hb)), q⟩
section
variable [PoC] {K : PySem.W.Frag}
def enumD (k : Nat) : List PyData → List PyData
  | [] => []
  | d :: r => .tuple [.int k, d] :: enumD (k + 1) r
theorem enumD_len : ∀ (ds : List PyData) (k : Nat), (enumD k ds).length = ds.length
  | [], _ => rfl
  | _ :: r, k => by simp [enumD, enumD_len r]
theorem enumD_get : ∀ (ds : List PyData) (k i : Nat) (d : PyData), ds[i]? = some d → (enumD k ds)[i]? = some (.tuple [.int (k + i : Nat), d])
  | [], _, _, _, h => by simp at h
  | x :: r, k, 0, d, h => by
    have : x = d := by simpa using h
    subst this; rfl
  | x :: r, k, i + 1, d, h => by
    have := enumD_get r (k + 1) i d (by simpa using h)
    rw [show k + 1 + i = k + (i + 1) by omega] at this
    simpa [enumD] using this
def enumOf : List PyData → W (List PyData)
  | [.list ds] => pure (enumD 0 ds)
  | [.tuple ds] => pure (enumD 0 ds)
  | _ => W.fail
def mEnum (md : Env → W (List PyData)) : Env → W (List PyData) := fun env => do enumOf (← md env)
theorem yld_pair {G H : Hp} {x : V} {H' : Hp} {ds : List PyData} {i : Nat} {T : Addr} {y : V} {d : PyData} {e1 : Ex G H} (h1 : x = .ref T) (h2 : H T = none) (h3 : H' = upd H T (.tup [.int (i : Nat), y])) (hd : ds[i]? = some d) (dy : Dp K G y d) :
    ∃ G' d', Stp G H G' H' ∧ (enumD 0 ds)[i]? = some d' ∧ Dp K G' x d' := by
  subst h1 h3
  have ee : Ex G (upd G T (.tup [.int (i : Nat), y])) := Ex.new (fresh_back e1 h2)
  exact ⟨_, _, .new h2, enumD_get ds 0 i d hd, .tup (Or.inl (Or.inl upd_same)) (.cons (by rw [Nat.zero_add]; exact .int _) (.cons (dp_ex ee dy) .nil))⟩
theorem tji_enum {ta : TA} {md : Env → W (List PyData)} (h : TJD K ta md) : TJI K (iEnumZ K ta) (mEnum md) := fun B G env σ H ok R q =>
  h B G env σ H ok _ ((md env).mono (fun ds q1 vs G1 H1 e1 f1 d1 => by
    match ds, d1, q1 with
    | [.list es], d1, q1 =>
      obtain ⟨v, rfl, hv⟩ := dpa_one d1
      obtain ⟨p, xs, rfl, h1, h2⟩ := dp_lst hv
      refine .inl ⟨p, xs, rfl, ex_l f1.ex h1, q1 _ G1 H1 e1 f1 ⟨fun i H hi e => ⟨xs, xs[i]'(by rw [dpa_len h2]; rw [enumD_len] at hi; exact hi), ex_l e h1, List.getElem?_eq_getElem _⟩, fun H e => ⟨xs, ex_l e h1, by rw [dpa_len h2, enumD_len]; exact Nat.le_refl _⟩, fun i G2 H2 x H3 hi e2 e3 y => ?_⟩⟩
      obtain ⟨T, z, y1, y2, y3, y4⟩ := y
      obtain ⟨d, g1, g2⟩ := dpa_get2 h2 (y4 xs (ex_l (e2.trans e3) h1))
      exact yld_pair (e1 := e3) y1 y2 y3 g1 (dp_ex e2 g2)
    | [.tuple es], d1, q1 =>
      obtain ⟨v, rfl, hv⟩ := dpa_one d1
      obtain ⟨p, xs, rfl, h1, h2⟩ := dp_tup hv
      refine .inr ⟨p, xs, rfl, ex_t f1.ex h1, q1 _ G1 H1 e1 f1 ⟨fun i H hi e => ⟨xs, xs[i]'(by rw [dpa_len h2]; rw [enumD_len] at hi; exact hi), ex_t e h1, List.getElem?_eq_getElem _⟩, fun H e => ⟨xs, ex_t e h1, by rw [dpa_len h2, enumD_len]; exact Nat.le_refl _⟩, fun i G2 H2 x H3 hi e2 e3 y => ?_⟩⟩
      obtain ⟨T, z, y1, y2, y3, y4⟩ := y
      obtain ⟨d, g1, g2⟩ := dpa_get2 h2 (y4 xs (ex_t (e2.trans e3) h1))
      exact yld_pair (e1 := e3) y1 y2 y3 g1 (dp_ex e2 g2)) q)
end
end Z
namespace Z
variable [PoC]
open PySem PySem.Spec PyProof.Rows L2
open Evl (Ex fresh_back)
/-! ### sep.join(texts), text.split(sep) -/
def strsD : List PyData → Option (List Str)
  | [] => some []
  | .str x :: r => (strsD r).map (x :: ·)
  | _ => none
section
variable {K : PySem.W.Frag}
theorem strsD_vs {G : Hp} : ∀ {vs : List V} {ds : List PyData} {ys : List Str}, DpAll K G vs ds → strsD ds = some ys → vs = ys.map V.str
  | _, [], ys, .nil, e => by cases e; rfl
  | _, d :: r, ys, .cons a h, e => by
    cases d with
    | str x =>
      cases c : strsD r with
      | none => simp [strsD, c] at e
      | some zs => simp [strsD, c] at e; subst e; cases a; rw [strsD_vs h c]; rfl
    | _ => simp [strsD] at e
theorem strsD_map : ∀ ys : List Str, strsD (ys.map PyData.str) = some ys
  | [] => rfl
  | y :: r => by simp [strsD, strsD_map r]
def joinOf (a : Str) : PyData → W PyData
  | .list ds => match strsD ds with
    | some ys => do W.need ((ys.map (·.length)).sum + ys.length * a.length ≤ 16777216); pure (.str (Txt.join a ys))
    | none => W.fail
  | .tuple ds => match strsD ds with
    | some ys => do W.need ((ys.map (·.length)).sum + ys.length * a.length ≤ 16777216); pure (.str (Txt.join a ys))
    | none => W.fail
  | _ => W.fail
def asStr : PyData → W Str
  | .str a => pure a
  | _ => W.fail
def mJoin (mo ma : Env → W PyData) : Env → W PyData := fun env => do let a ← asStr (← mo env); let b ← ma env; joinOf a b
abbrev rJoinZ (K : PySem.W.Frag) : V → List V → Hp → VK → Prop := fun x xs H Q => ∃ a p, ∃ ys : List Str, x = .str a ∧ xs = [.ref p] ∧ (SqL K H p (ys.map V.str) ∨ SqT K H p (ys.map V.str)) ∧
    (ys.map (·.length)).sum + ys.length * a.length ≤ 16777216 ∧ Q (.str (Txt.join a ys)) H
theorem asStr_run {d : PyData} {Q : Str → Prop} (h : (asStr d).run Q) : ∃ a, d = .str a ∧ Q a := by
  cases d with
  | str a => exact ⟨a, rfl, h⟩
  | _ => exact h.elim
theorem tj_join {to ta : TE} {mo ma : Env → W PyData} (ho : TJ K to mo) (ha : TJ K ta ma) : TJ K (tBM K "str" (rJoinZ K) to (tCons ta tNil)) (mJoin mo ma) := fun B G env σ H ok Q q =>
  ho B G env σ H ok _ ((mo env).mono (fun d q1 v G1 H1 e1 f1 d1 => by
    obtain ⟨a, rfl, q1⟩ := asStr_run q1
    cases d1
    refine ⟨rfl, ha B G1 env σ H1 (ok.go e1 f1) _ ((ma env).mono (fun b q2 u G2 H2 e2 f2 d2 => ?_) q1)⟩
    cases b with
    | list ds =>
      obtain ⟨p, vs, rfl, h1, h2⟩ := dp_lst d2
      simp only [joinOf] at q2
      cases c : strsD ds with
      | none => rw [c] at q2; exact q2.elim
      | some ys =>
        rw [c] at q2
        exact ⟨a, p, ys, rfl, rfl, .inl (strsD_vs h2 c ▸ ex_l f2.ex h1), q2.1, q2.2 _ G2 H2 (e1.trans e2) f2 (.str _)⟩
    | tuple ds =>
      obtain ⟨p, vs, rfl, h1, h2⟩ := dp_tup d2
      simp only [joinOf] at q2
      cases c : strsD ds with
      | none => rw [c] at q2; exact q2.elim
      | some ys =>
        rw [c] at q2
        exact ⟨a, p, ys, rfl, rfl, .inr (strsD_vs h2 c ▸ ex_t f2.ex h1), q2.1, q2.2 _ G2 H2 (e1.trans e2) f2 (.str _)⟩
    | _ => exact q2.elim) q)
def mSplit (mo ma : Env → W PyData) : Env → W (List PyData) := fun env => do
  let a ← asStr (← mo env)
  let b ← asStr (← ma env)
  W.need ((b.length == 0) = false ∧ a.length + 2 ≤ sizeLine)
  pure ((Txt.split a b).map .str)
abbrev rSplitZ : V → List V → Hp → VK → Prop := fun x xs H Q => ∃ a b, x = .str a ∧ xs = [.str b] ∧ (b.length == 0) = false ∧ a.length + 2 ≤ sizeLine ∧ rNewStrs (Txt.split a b) H Q
theorem dpa_strs {G : Hp} : ∀ ys : List Str, DpAll K G (ys.map V.str) (ys.map PyData.str)
  | [] => .nil
  | y :: r => .cons (.str y) (dpa_strs r)
theorem tjl_split {to ta : TE} {mo ma : Env → W PyData} (ho : TJ K to mo) (ha : TJ K ta ma) : TJL K (tBM K "str" rSplitZ to (tCons ta tNil)) (mSplit mo ma) := fun B G env σ H ok Q q =>
  ho B G env σ H ok _ ((mo env).mono (fun d q1 v G1 H1 e1 f1 d1 => by
    obtain ⟨a, rfl, q1⟩ := asStr_run q1
    cases d1
    refine ⟨rfl, ha B G1 env σ H1 (ok.go e1 f1) _ ((ma env).mono (fun b q2 u G2 H2 e2 f2 d2 => ?_) q1)⟩
    obtain ⟨b, rfl, q2⟩ := asStr_run q2
    cases d2
    exact ⟨a, b, rfl, rfl, q2.1.1, q2.1.2, fun p hp => q2.2 p _ G2 _ (e1.trans e2) (f2.lay hp) (f2.free hp) (fresh_back f2.ex hp) upd_same (dpa_strs _)⟩) q)
/-! a new list by a slice -/
def slL (a : PyData) (lo hi : Option Int) : W (List PyData) := match a with
  | .list ds => pure (cutL ds lo hi)
  | _ => W.fail
def mSlL (m : Env → W PyData) (ml mh : Env → W (Option Int)) : Env → W (List PyData) := fun env => do let a ← m env; let l ← ml env; let h ← mh env; slL a l h
theorem tjl_sl {te : TE} {tl th : TO} {m : Env → W PyData} {ml mh : Env → W (Option Int)} (h : TJ K te m) (hl : TJO K tl ml) (hh : TJO K th mh) : TJL K (tSl (rSlZ K) te tl th) (mSlL m ml mh) := fun B G env σ H ok Q q =>
  h B G env σ H ok _ ((m env).mono (fun a q1 v G1 H1 e1 f1 d1 => hl B G1 env σ H1 (ok.go e1 f1) _ ((ml env).mono (fun l q2 G2 H2 e2 f2 => hh B G2 env σ H2 (ok.go (e1.trans e2) f2) _ ((mh env).mono (fun u q3 G3 H3 e3 f3 => by
    have e := e1.trans (e2.trans e3)
    have d3 := dp_ex (e2.trans e3) d1
    cases a with
    | list ds =>
      obtain ⟨p, vs, rfl, h1, h2⟩ := dp_lst d3
      exact .inr (.inl ⟨p, vs, rfl, ex_l f3.ex h1, fun t ht => q3 t _ G3 _ e (f3.lay ht) (f3.free ht) (fresh_back f3.ex ht) upd_same (dpa_cut h2 l u)⟩)
    | _ => exact q3.elim) q2)) q1)) q)
end
end Z
namespace Z
open PySem PySem.Spec PyProof.Rows L2
open Evl (Ex fresh_back)
/-! ### a law whose body has no pile -/
theorem law_body0 {K : PySem.W.Frag} (hL : NoL K) {N : List Str} {k : Nat} {tu : TS} {ms : Ms} {ns : List Int} (hN : N.length = 1 + k) (h : @TJS inst0 Tight K tu ms)
    {a : Addr} {H : Hp} {Q : VK} {E : XK} (hS : SqL K H a (ns.map V.int) ∧ NoTp H) (q : ∀ H', Q (.bl true) H')
    (p : (ms ([.imm (.list (ns.map PyData.int))] ++ List.replicate k .any)).run fun r => r.1 = .rt (.im (.bool true))) :
    tu { nx := fun _ H' => Q .non H', rt := Q } (start N [.ref a]) H := by
  letI := inst0
  refine fn_body (n := 1) (k := k) (ms := ms) (K := K) (E := E) h hN ?_
  obtain ⟨G, eG, nG, sG, cG⟩ := only_of hL hS.1
  have f0 : Fra (bas G H [] []) G H := ⟨eG, Ex.refl _, fun _ _ e _ => e, fun _ e => e, fun _ _ e => e, fun q hq => (by cases hq), fun q hq => (by cases hq), fun q hq => (by cases hq), Nat.zero_le _, fun _ _ h => (by cases h), cG, fun b xs e => (hS.2 b xs e).elim⟩
  refine ⟨G, [], [.imm (.list (ns.map PyData.int))], f0, rfl, .cons (.lst sG (dp_nums (K := K) ns)) .nil, ?_⟩
  show (ms _).run _
  refine (ms _).mono (fun r hr => ?_) p
  obtain ⟨fl, e⟩ := r
  have hr : fl = .rt (.im (.bool true)) := hr
  subst hr
  intro v G' H' _ _ dv
  cases dv
  exact q H'
/-! x *= e -/
section
variable [PoC] {M : Ba → Prop} {K : PySem.W.Frag} {te : TE} {m : Env → W PyData}
def ipC (C : Int → Int → Prop) (f : Int → Int → Int) : TIp := fun x y H Q => ∃ i j, x = .int i ∧ y = .int j ∧ C i j ∧ Q (.int (f i j)) H
theorem ip_mulZ {X : Cx} : PIp X .Mult (ipC CM fun i j => i * j) := by
  intro pins s σ H x y v u Q I r1 r2 h
  obtain ⟨i, j, rfl, rfl, hc, q⟩ := h
  obtain ⟨t, rfl⟩ := r1
  obtain ⟨t', rfl⟩ := r2
  exact imul_int ⟨.int _, H, I.tok _, ⟨_, rfl⟩, q⟩ hc.ok
def sAugC (i : Nat) (C : Int → Int → Prop) (f : Int → Int → Int) (m : Env → W PyData) : Ms := fun env => match gt env i with
  | .imm (.int a) => do
    match ← m env with
    | .int b => do W.need (C a b); pure (.nx, env.set i (.imm (.int (f a b))))
    | _ => W.fail
  | _ => W.fail
theorem tjs_augC {i : Nat} {C : Int → Int → Prop} {f : Int → Int → Int} (h : TJ K te m) : TJS M K (tAug i te (ipC C f)) (sAugC i C f m) := fun B G fps env σ H ok hm D q => by
  have s := ok.sl i
  unfold sAugC at q
  split at q
  · rename_i a hg
    rw [hg] at s
    obtain ⟨_, v, h1, h2⟩ := s
    cases h2
    refine ⟨_, sg_some h1, ok.ev h ((m env).mono (fun d k v G' H' e ok' dv => ?_) q)⟩
    cases d with
    | int b => cases dv; exact ⟨a, b, rfl, rfl, k.1, k.2 G' _ _ _ e (ok'.put (i := i) (f := none) (s := .imm (.int (f a b))) (o := some (.int (f a b))) ⟨rfl, _, rfl, .int _⟩ (fun p j z => by cases z))⟩
    | _ => exact k.elim
  · exact q.elim
end
end Z
namespace ZT
open PySem PySem.Spec PyProof.Rows L2
/-! ### sets of any size: the round i -> 5 i + 1 modulo a power of two meets all -/
def gS : Nat → Nat
  | 0 => 0
  | d + 1 => 5 * gS d + 1
theorem gS_add (a : Nat) : ∀ b, gS (a + b) = gS a * 5 ^ b + gS b
  | 0 => by simp [gS]
  | b + 1 => by
    show 5 * gS (a + b) + 1 = gS a * 5 ^ (b + 1) + (5 * gS b + 1)
    rw [gS_add a b, Nat.pow_succ, Nat.mul_add, ← Nat.mul_assoc, Nat.mul_comm 5 (gS a), Nat.mul_assoc, Nat.mul_comm 5 (5 ^ b)]
    omega
theorem gS_two : ∀ d, gS d % 2 = d % 2
  | 0 => rfl
  | d + 1 => by
    have := gS_two d
    show (5 * gS d + 1) % 2 = _
    omega
theorem gS_pow : ∀ d, 5 ^ d = 4 * gS d + 1
  | 0 => rfl
  | d + 1 => by
    rw [Nat.pow_succ, gS_pow d]
    show _ = 4 * (5 * gS d + 1) + 1
    omega
theorem gS_dvd : ∀ (k d : Nat), 2 ^ k ∣ gS d → 2 ^ k ∣ d
  | 0, d, _ => by rw [Nat.pow_zero]; exact Nat.one_dvd d
  | k + 1, d, h => by
    have h2 : 2 ∣ gS d := Nat.dvd_trans ⟨2 ^ k, by rw [Nat.pow_succ, Nat.mul_comm]⟩ h
    have hd : d % 2 = 0 := by rw [← gS_two]; exact Nat.mod_eq_zero_of_dvd h2
    obtain ⟨e, rfl⟩ : ∃ e, d = e + e := ⟨d / 2, by omega⟩
    have e1 : gS (e + e) = 2 * (gS e * (2 * gS e + 1)) := by
      rw [gS_add, gS_pow]
      have : gS e * (4 * gS e + 1) + gS e = gS e * (4 * gS e + 1 + 1) := (Nat.mul_succ _ _).symm
      rw [this]
      have : 4 * gS e + 1 + 1 = 2 * (2 * gS e + 1) := by omega
      rw [this, ← Nat.mul_assoc, Nat.mul_comm (gS e) 2, Nat.mul_assoc]
    rw [e1, Nat.pow_succ, Nat.mul_comm (2 ^ k) 2] at h
    have h3 : 2 ^ k ∣ gS e * (2 * gS e + 1) := Nat.dvd_of_mul_dvd_mul_left (by decide) h
    have hc : Nat.Coprime (2 ^ k) (2 * gS e + 1) := by
      refine Nat.Coprime.pow_left k ?_
      show Nat.gcd 2 (2 * gS e + 1) = 1
      rw [Nat.gcd_rec]
      have : (2 * gS e + 1) % 2 = 1 := by omega
      rw [this]; decide
    have h4 := gS_dvd k e (hc.dvd_of_dvd_mul_right h3)
    obtain ⟨q, rfl⟩ := h4
    exact ⟨q, by rw [Nat.pow_succ, Nat.mul_assoc, Nat.mul_comm 2 q, ← Nat.mul_assoc]; omega⟩
def MK (m : Nat) : Prop := ∃ k, 3 ≤ k ∧ k ≤ 13 ∧ m + 1 = 2 ^ k
theorem MK.pos {m : Nat} (h : MK m) : 7 ≤ m ∧ m ≤ 8191 ∧ m % 2 = 1 := by
  obtain ⟨k, h1, h2, h3⟩ := h
  have : k = 3 ∨ k = 4 ∨ k = 5 ∨ k = 6 ∨ k = 7 ∨ k = 8 ∨ k = 9 ∨ k = 10 ∨ k = 11 ∨ k = 12 ∨ k = 13 := by omega
  rcases this with rfl | rfl | rfl | rfl | rfl | rfl | rfl | rfl | rfl | rfl | rfl <;> simp at h3 <;> omega
theorem turn_shape (m i : Nat) (hi : i ≤ m) : ∀ t, lcgI m i t = (5 ^ t * i + gS t) % (m + 1)
  | 0 => by
    show i = _
    simp [gS]
    exact (Nat.mod_eq_of_lt (Nat.lt_succ_of_le hi)).symm
  | t + 1 => by
    show (lcgI m i t * 5 + 1) % (m + 1) = _
    rw [turn_shape m i hi t, Nat.add_mod, Nat.mul_mod, Nat.mod_mod, ← Nat.mul_mod, ← Nat.add_mod]
    congr 1
    show _ = 5 ^ (t + 1) * i + (5 * gS t + 1)
    rw [Nat.pow_succ, Nat.add_mul, Nat.mul_assoc, Nat.mul_assoc, Nat.mul_comm i 5]
    omega
theorem turn_le (m i : Nat) (hi : i ≤ m) : ∀ t, lcgI m i t ≤ m
  | 0 => hi
  | t + 1 => Nat.le_of_lt_succ (Nat.mod_lt _ (Nat.succ_pos m))
theorem turn_add (m i a : Nat) : ∀ d, lcgI m i (a + d) = lcgI m (lcgI m i a) d
  | 0 => rfl
  | d + 1 => by
    show (lcgI m i (a + d) * 5 + 1) % (m + 1) = (lcgI m (lcgI m i a) d * 5 + 1) % (m + 1)
    rw [turn_add m i a d]
theorem turn_back {m x d : Nat} (hm : MK m) (hx : x ≤ m) (h : lcgI m x d = x) : m + 1 ∣ d := by
  obtain ⟨k, _, _, e⟩ := hm
  rw [turn_shape m x hx] at h
  have h1 : m + 1 ∣ (5 ^ d * x + gS d) - x := by
    have := Nat.dvd_sub_mod (n := m + 1) (5 ^ d * x + gS d)
    rwa [h] at this
  have h2 : (5 ^ d * x + gS d) - x = gS d * (4 * x + 1) := by
    rw [gS_pow, Nat.add_mul, Nat.one_mul]
    have : gS d * (4 * x + 1) = 4 * gS d * x + gS d := by
      rw [Nat.mul_succ, ← Nat.mul_assoc, Nat.mul_comm (gS d) 4]
    rw [this]; omega
  rw [h2, e] at h1
  have hc : Nat.Coprime (2 ^ k) (4 * x + 1) := by
    refine Nat.Coprime.pow_left k ?_
    show Nat.gcd 2 (4 * x + 1) = 1
    rw [Nat.gcd_rec]
    have : (4 * x + 1) % 2 = 1 := by omega
    rw [this]; decide
  rw [e]
  exact gS_dvd k d (hc.dvd_of_dvd_mul_right h1)
theorem round_all {m i j : Nat} (hm : MK m) (hi : i ≤ m) (hj : j ≤ m) : ∃ t, t ≤ m ∧ lcgI m i t = j := by
  rcases Classical.em (∃ t, t ≤ m ∧ lcgI m i t = j) with c | c
  · exact c
  · exfalso
    have nd : ((List.range (m + 1)).map (lcgI m i)).Nodup := by
      refine List.pairwise_map.mpr (List.Pairwise.imp_of_mem (fun {a b} ha hb hab e => ?_) List.pairwise_lt_range)
      have hb' := List.mem_range.mp hb
      obtain ⟨d, rfl⟩ : ∃ d, b = a + d := ⟨b - a, by omega⟩
      rw [turn_add] at e
      have := Nat.le_of_dvd (by omega) (turn_back hm (turn_le m i hi a) e.symm)
      omega
    have nd2 : (j :: (List.range (m + 1)).map (lcgI m i)).Nodup := List.nodup_cons.mpr ⟨fun h => by
      obtain ⟨t, ht, e⟩ := List.mem_map.mp h
      exact c ⟨t, Nat.le_of_lt_succ (List.mem_range.mp ht), e⟩, nd⟩
    have := nat_nodup_len _ (List.range (m + 1)) nd2 fun x hx => by
      rw [List.mem_range]
      rcases List.mem_cons.mp hx with rfl | hx
      · omega
      · obtain ⟨t, _, rfl⟩ := List.mem_map.mp hx
        exact Nat.lt_succ_of_le (turn_le m i hi t)
    simp at this
    omega
theorem run_there {m : Nat} (hm : MK m) (h : Int) {j : Nat} (hj : j ≤ m) : ∃ n, n ≤ m + 12 ∧ runI m (SetTable.bits h) n = j := by
  have h0 := runI_le m (SetTable.bits h) 12
  obtain ⟨t, ht, e⟩ := round_all hm h0 hj
  refine ⟨12 + t, by omega, ?_⟩
  rw [runI_tail (bits_lt h), e]
theorem met {m : Nat} (hm : MK m) (h : Int) {j : Nat} (hj : j ≤ m) : ∃ k, k < 10 * SetTable.turns m ∧ way m h k = j := by
  obtain ⟨n, hn, e⟩ := run_there hm h hj
  obtain ⟨k, hk, e2⟩ := run_nth m (SetTable.bits h) n
  have : SetTable.turns m = m + 15 := rfl
  refine ⟨k, by omega, ?_⟩
  show (nth m _ k).j = j
  rw [e2]; exact e
theorem way_in (m : Nat) (h : Int) (k : Nat) : way m h k ≤ m := by
  have hb : SetTable.bits h % (m + 1) ≤ m := Nat.le_of_lt_succ (Nat.mod_lt _ (Nat.succ_pos m))
  have hr := runEnd_bd hb
  have := nth_in (m := m) k (runAt m (SetTable.bits h % (m + 1)) (SetTable.bits h)) (by
    simp only [runAt]
    omega)
  show (nth m _ k).j ≤ m
  omega
/-! a table in which each entry is found on its way -/
structure Tb (t : SetTable) (hs : List Int) : Prop where
  ris : Ris t.place.toList
  dm : t.dummies = #[]
  sz : t.place.size = hs.length
  mok : MK t.mask
  bd : ∀ x ∈ t.place.toList, x ≤ t.mask
  fnd : ∀ (i : Nat) (h : Int) (j : Nat), hs[i]? = some h → t.place.toList[i]? = some j → ∃ k, way t.mask h k = j ∧ ∀ c, c < k → way t.mask h c ∈ t.place.toList
theorem Tb.gap {t : SetTable} {hs : List Int} (T : Tb t hs) (hl : hs.length ≤ t.mask) (h : Int) : ∃ K, K < 10 * SetTable.turns t.mask ∧ way t.mask h K ∉ t.place.toList ∧ ∀ k, k < K → way t.mask h k ∈ t.place.toList := by
  have hz := T.sz
  obtain ⟨j, hj, hn⟩ := st_missing t.place.toList (t.mask + 1) (by rw [Array.length_toList]; omega)
  obtain ⟨k, hk, rfl⟩ := met T.mok h (Nat.le_of_lt_succ hj)
  obtain ⟨K, h1, h2, h3⟩ := st_least (p := fun k => way t.mask h k ∉ t.place.toList) k hn
  exact ⟨K, by omega, h2, fun c hc => Classical.byContradiction fun hcon => h3 c hc hcon⟩
theorem Tb.ahead {t : SetTable} {hs : List Int} (T : Tb t hs) {h : Int} {K i j : Nat} (hK : way t.mask h K ∉ t.place.toList) (hi : hs[i]? = some h) (hj : t.place.toList[i]? = some j) : ∃ k, k < K ∧ way t.mask h k = j := by
  obtain ⟨k, e, hb⟩ := T.fnd i h j hi hj
  refine ⟨k, Classical.byContradiction fun hc => ?_, e⟩
  rcases Nat.lt_or_ge K k with c | c
  · exact hK (hb K c)
  · have : k = K := by omega
    subst this
    rw [e] at hK
    exact hK (List.mem_of_getElem? hj)
theorem Tb.more {t : SetTable} {hs : List Int} (T : Tb t hs) {h : Int} {K : Nat} (hK : way t.mask h K ∉ t.place.toList) (hb : ∀ k, k < K → way t.mask h k ∈ t.place.toList) {p : Nat} (hp : p = SetTable.below t.place (way t.mask h K)) :
    p ≤ hs.length ∧ Tb (t.put (way t.mask h K)).1 (hs.take p ++ h :: hs.drop p) ∧ (t.put (way t.mask h K)).1.fill = hs.length + 1 := by
  have hjm := way_in t.mask h K
  have hz := T.sz
  generalize hj : way t.mask h K = j at *
  subst hp
  have hc := (below_cut T.ris j).1
  have hpl : SetTable.below t.place j ≤ t.place.toList.length := by rw [Array.length_toList]; exact hc
  have hph : SetTable.below t.place j ≤ hs.length := by omega
  have hpp := put_place t j
  have hdd := put_dm T.dm j
  have hsz : (t.put j).1.place.size = hs.length + 1 := by
    rw [← Array.length_toList, hpp, len_ins _ hpl, Array.length_toList, hz]
  have up : ∀ x, x ∈ t.place.toList → x ∈ (t.put j).1.place.toList := fun x hx => by
    rw [hpp]; exact mem_ins.mpr (.inr hx)
  have hm : (t.put j).1.mask = t.mask := rfl
  refine ⟨hph, ⟨ris_insert T.ris fun e => hK (List.mem_of_getElem? (i := SetTable.below t.place j) (by rw [Array.getElem?_toList]; exact e)), hdd, by rw [len_ins _ hph]; exact hsz, T.mok, fun x hx => ?_, fun i h' j' h1 h2 => ?_⟩, ?_⟩
  · rw [hpp] at hx
    rcases mem_ins.mp hx with rfl | hx
    · exact hjm
    · exact T.bd x hx
  · rw [hm]
    rw [tins_get hs hph] at h1
    rw [hpp, tins_get _ hpl] at h2
    rcases Nat.lt_trichotomy i (SetTable.below t.place j) with c | c | c
    · rw [if_pos c] at h1 h2
      obtain ⟨k, e, z⟩ := T.fnd i h' j' h1 h2
      exact ⟨k, e, fun c hc => up _ (z c hc)⟩
    · have nc : ¬ i < SetTable.below t.place j := by omega
      rw [if_neg nc, if_pos c] at h1 h2
      cases h1
      cases h2
      exact ⟨K, hj, fun c hc => up _ (hb c hc)⟩
    · have nc : ¬ i < SetTable.below t.place j := by omega
      have nd : ¬ i = SetTable.below t.place j := by omega
      rw [if_neg nc, if_neg nd] at h1 h2
      obtain ⟨k, e, z⟩ := T.fnd (i - 1) h' j' h1 h2
      exact ⟨k, e, fun c hc => up _ (z c hc)⟩
  · unfold SetTable.fill
    rw [hsz, hdd]; rfl
/-! laid anew -/
theorem gap_found {m : Nat} (hm : MK m) (owner : Array (Option Nat)) (h : Int) {j : Nat} (hj : j ≤ m) (hf : oAt owner j = none) :
    ∃ K, SetTable.layClean.free m owner (SetTable.turns m) (SetTable.bits h % (m + 1)) (SetTable.bits h) = some (way m h K) ∧ oAt owner (way m h K) = none ∧ ∀ k, k < K → oAt owner (way m h k) ≠ none := by
  obtain ⟨n, hn, e⟩ := run_there hm h hj
  have hw : way m h (off m (SetTable.bits h % (m + 1)) (SetTable.bits h) n) = j := by
    show (nth m _ _).j = j
    rw [nth_off, itL_run]
    exact e
  obtain ⟨K, k1, k2, k3⟩ := st_least (p := fun k => oAt owner (way m h k) = none) _ (by show oAt owner _ = none; rw [hw]; exact hf)
  have tm : SetTable.turns m = m + 15 := rfl
  refine ⟨K, free_spec m owner (SetTable.turns m) n _ _ K (by omega) k1 (fun k hk => ?_) ?_, k2, k3⟩
  · have := k3 k hk
    cases z : oAt owner (way m h k) with
    | none => exact absurd z this
    | some x => rfl
  · rw [show oAt owner (nth m (runAt m (SetTable.bits h % (m + 1)) (SetTable.bits h)) K).j = none from k2]; rfl
theorem own_step {m : Nat} (hm : MK m) {done : List Int} {owner : Array (Option Nat)} (W : Own m done owner) (hl : done.length ≤ m) (h : Int) :
    ∃ j, SetTable.layClean.free m owner (SetTable.turns m) (SetTable.bits h % (m + 1)) (SetTable.bits h) = some j ∧ Own m (done ++ [h]) (owner.setIfInBounds j (some done.length)) := by
  obtain ⟨ps, hps, hin⟩ := W.ps
  obtain ⟨j0, h0, hn0⟩ := st_missing ps (m + 1) (by omega)
  have hj0 : oAt owner j0 = none := by
    cases z : oAt owner j0 with
    | none => rfl
    | some k => exact absurd (hin j0 (by omega) (by rw [z]; simp)) hn0
  obtain ⟨K, e1, e2, e3⟩ := gap_found hm owner h (by omega) hj0
  have hwm := way_in m h K
  generalize hj : way m h K = j at *
  have hjs : j < owner.size := by have := W.sz; omega
  have self : oAt (owner.setIfInBounds j (some done.length)) j = some done.length := oAt_set_self _ hjs
  have other : ∀ i, i ≠ j → oAt (owner.setIfInBounds j (some done.length)) i = oAt owner i := fun i hi => oAt_set_ne _ hi
  have mono : ∀ i, oAt owner i ≠ none → oAt (owner.setIfInBounds j (some done.length)) i ≠ none := fun i hi => by
    by_cases c : i = j
    · rw [c, self]; simp
    · rw [other i c]; exact hi
  refine ⟨j, e1, by rw [Array.size_setIfInBounds]; exact W.sz, fun i k hi e => ?_, fun k hk => ?_, j :: ps, by simp [hps], fun i hi e => ?_⟩
  · by_cases c : i = j
    · rw [c, self] at e
      cases e
      refine ⟨h, K, by simp, by rw [c]; exact hj, fun c hc => mono _ (e3 c hc)⟩
    · rw [other i c] at e
      obtain ⟨h', K', a1, a2, a3⟩ := W.at_ i k hi e
      have hk : k < done.length := (List.getElem?_eq_some_iff.mp a1).1
      exact ⟨h', K', by rw [List.getElem?_append_left hk]; exact a1, a2, fun c hc => mono _ (a3 c hc)⟩
  · rw [List.length_append, List.length_singleton] at hk
    rcases Nat.lt_or_ge k done.length with c | c
    · obtain ⟨i, hi, e⟩ := W.all k c
      refine ⟨i, hi, ?_⟩
      rw [other i fun z => by rw [z, e2] at e; cases e]
      exact e
    · have : k = done.length := by omega
      exact ⟨j, hwm, by rw [this]; exact self⟩
  · by_cases c : i = j
    · rw [c]; exact List.mem_cons_self ..
    · rw [other i c] at e
      exact List.mem_cons_of_mem _ (hin i hi e)
theorem own_all {m : Nat} (hm : MK m) : ∀ (rest done : List Int) (owner : Array (Option Nat)), Own m done owner → done.length + rest.length ≤ m →
    ∃ owner', rest.foldl (stepF m) (some (owner, done.length)) = some (owner', (done ++ rest).length) ∧ Own m (done ++ rest) owner'
  | [], done, owner, W, _ => ⟨owner, by simp, by simpa using W⟩
  | h :: rest, done, owner, W, hl => by
    rw [List.length_cons] at hl
    obtain ⟨j, e, W'⟩ := own_step hm W (by omega) h
    obtain ⟨owner', f, W2⟩ := own_all hm rest (done ++ [h]) _ W' (by simp; omega)
    refine ⟨owner', ?_, by simpa using W2⟩
    rw [List.foldl_cons, stepF_some e]
    simpa using f
theorem laid_all {m : Nat} (hm : MK m) {hs : Array Int} (hn : hs.size ≤ m) : ∃ owner, SetTable.layClean m hs = some owner ∧ Own m hs.toList owner := by
  obtain ⟨owner, f, W⟩ := own_all hm hs.toList [] _ (Own.init m) (by simp; exact hn)
  rw [List.nil_append] at W f
  refine ⟨owner, ?_, W⟩
  rw [layClean_eq]
  rw [show ([] : List Int).length = 0 from rfl] at f
  rw [f]; rfl
theorem anew (t : SetTable) {hs : Array Int} {wanted M : Nat} (hw : SetTable.sizeAbove wanted - 1 = M) (hM : MK M) (hn : hs.size ≤ M) :
    ∃ t' order, t.relaid hs wanted = some (t', order) ∧ order.toList.Perm (List.range hs.size) ∧ Tb t' (order.toList.map fun i => hs.getD i 0) ∧ t'.mask = M ∧ t'.led = t.led ∧ t'.plain = t.plain ∧ t'.dummies = #[] := by
  obtain ⟨owner, e, W⟩ := laid_all hM hn
  have hws := W.sz
  have hr : t.relaid hs wanted = some (tabOf t M owner, ((liveOf M owner).map (·.2)).toArray) := by
    rw [relaid_eq, hw, e]; rfl
  have ris := ris_live (fun j => owner.getD j none) (List.range (M + 1)) List.pairwise_lt_range
  have r1 : Ris ((liveOf M owner).map (·.1)) := ris.1
  have nd : ((liveOf M owner).map (·.1)).Nodup := r1.imp fun h => Nat.ne_of_lt h
  have hlen : (liveOf M owner).length = hs.size := by
    obtain ⟨ps, p1, p2⟩ := W.ps
    have a := nat_nodup_len _ ps nd fun x hx => by
      obtain ⟨⟨y, k⟩, hq, rfl⟩ := List.mem_map.mp hx
      obtain ⟨b1, b2⟩ := (mem_live hws).mp hq
      exact p2 y b1 (by rw [b2]; simp)
    have b := nat_nodup_len (List.range hs.size) ((liveOf M owner).map (·.2)) List.nodup_range fun k hk => by
      obtain ⟨j, b1, b2⟩ := W.all k (by rw [Array.length_toList]; exact List.mem_range.mp hk)
      exact List.mem_map.mpr ⟨(j, k), (mem_live hws).mpr ⟨b1, b2⟩, rfl⟩
    rw [List.length_map] at a b
    rw [List.length_range] at b
    rw [p1] at a
    have hz : hs.toList.length = hs.size := rfl
    omega
  refine ⟨_, _, hr, ?_, ⟨r1, rfl, ?_, hM, fun x hx => ?_, fun i h j h1 h2 => ?_⟩, rfl, rfl, rfl, rfl⟩
  · refine perm_range hs.size _ (by simp [hlen]) fun k hk => ?_
    obtain ⟨j, b1, b2⟩ := W.all k (by rw [Array.length_toList]; exact hk)
    simp only [List.toList_toArray]
    exact List.mem_map.mpr ⟨(j, k), (mem_live hws).mpr ⟨b1, b2⟩, rfl⟩
  · simp [tabOf]
  · have := ris.2 x hx
    have := List.mem_range.mp this
    show x ≤ M
    omega
  · simp only [List.toList_toArray, List.map_map, List.getElem?_map] at h1
    have h2' : ((liveOf M owner).map (·.1))[i]? = some j := h2
    rw [List.getElem?_map] at h2'
    cases hq : (liveOf M owner)[i]? with
    | none => rw [hq] at h2'; cases h2'
    | some q =>
      obtain ⟨y, k⟩ := q
      rw [hq] at h1 h2'
      simp only [Option.map_some, Option.some.injEq, Function.comp] at h1 h2'
      subst h2'
      obtain ⟨b1, b2⟩ := (mem_live hws).mp (List.mem_of_getElem? hq)
      obtain ⟨h0, K, a1, a2, a3⟩ := W.at_ y k b1 b2
      have e0 : hs.getD k 0 = h0 := by
        rw [Array.getD_eq_getD_getElem?, ← Array.getElem?_toList, a1]; rfl
      rw [e0] at h1
      subst h1
      refine ⟨K, a2, fun c hc => ?_⟩
      show way M h0 c ∈ (liveOf M owner).map (·.1)
      cases z : oAt owner (way M h0 c) with
      | none => exact absurd z (a3 c hc)
      | some k2 => exact List.mem_map.mpr ⟨_, (mem_live hws).mpr ⟨way_in M h0 c, z⟩, rfl⟩
/-! the sizes that come -/
def nextMask (m : Nat) : Nat := SetTable.sizeAbove (SetTable.grown ((m * 3 + 4) / 5)) - 1
theorem sizes : SetTable.sizeAbove (SetTable.grown 5) = 32 ∧ SetTable.sizeAbove (SetTable.grown 19) = 128 ∧ SetTable.sizeAbove (SetTable.grown 77) = 512 ∧ SetTable.sizeAbove (SetTable.grown 307) = 2048 ∧ SetTable.sizeAbove (SetTable.grown 1229) = 8192 := by decide +kernel
end ZT
namespace ZT
open PySem PySem.Spec PyProof.Rows L2
/-! ### what members of a set may be -/
structure SKind (P : Program) (w : World) (κ : Type) where
  is : Heap → κ → Value → Prop
  hash : κ → Int
  tab : SetTable → List Int → Prop
  ext : ∀ {h h' : Heap} {k : κ} {v : Value}, is h k v → (∀ b o, h.get? b = some o → h'.get? b = some o) → is h' k v
  but : ∀ {h h' : Heap} {k : κ} {v : Value} {a : Addr} {o : Obj} {es : Array (Int × Value)} {ep : Nat} {t : SetTable}, is h k v → h.get? a = some o → o.data = .set es ep t → Heap.SameBut a h h' → is h' k v
section
variable {P : Program} {w : World} {κ : Type}
structure SR (D : SKind P w κ) (h : Heap) (a : Addr) (L : List (Value × κ)) (es : Array (Int × Value)) (ep : Nat) (t : SetTable) : Prop where
  ob : ∃ o, h.get? a = some o ∧ o.ExactSet ∧ o.data = .set es ep t
  rows : es.toList = L.map fun p => (D.hash p.2, p.1)
  nd : (L.map (·.2)).Nodup
  mem : ∀ p ∈ L, D.is h p.2 p.1
  ris : Ris t.place.toList
  fits : t.fits es.size = true
  led : w.params.followText "set-order" = true ∨ t.led = true
  few : L.length < 4000
  tab : D.tab t (L.map fun p => D.hash p.2)
variable {D : SKind P w κ}
theorem SR.size {h : Heap} {a : Addr} {L : List (Value × κ)} {es : Array (Int × Value)} {ep : Nat} {t : SetTable} (R : SR D h a L es ep t) : es.size = L.length := by
  have := congrArg List.length R.rows
  simpa using this
theorem SR.keep {h h' : Heap} {a : Addr} {L : List (Value × κ)} {es : Array (Int × Value)} {ep : Nat} {t : SetTable} (R : SR D h a L es ep t) (ha : ∀ o, h.get? a = some o → h'.get? a = some o) (ht : ∀ p ∈ L, D.is h' p.2 p.1) : SR D h' a L es ep t := by
  obtain ⟨o, ho, r⟩ := R.ob
  exact ⟨⟨o, ha o ho, r⟩, R.rows, R.nd, ht, R.ris, R.fits, R.led, R.few, R.tab⟩
/-- one more goes in -/
def Adds (D : SKind P w κ) : Prop := ∀ (A : Around) (E : Value → Shared → Prop) (s : Shared) (a : Addr) (L : List (Value × κ)) (es : Array (Int × Value)) (ep : Nat) (t : SetTable) (x : Value) (k : κ) (Q : Bool → Shared → Prop),
  SR D s.heap a L es ep t → D.is s.heap k x → A.units < cLine → L.length + 1 < 4000 →
  (∀ b h' tk L' es' ep' t', Heap.SameBut a s.heap h' → SR D h' a L' es' ep' t' → (k ∈ L.map (·.2) → L' = L) → (k ∉ L.map (·.2) → L'.Perm ((x, k) :: L)) → s.toks ≤ tk → Q b { s with heap := h', toks := tk }) →
  wpAny (model P w) A (setAdd a x) Q E s
/-- what the first items gave -/
structure Gvn (ks : List (Value × κ)) (i : Nat) (L : List (Value × κ)) : Prop where
  sub : ∀ p ∈ L, p ∈ ks.take i
  all : ∀ p ∈ ks.take i, p.2 ∈ L.map (·.2)
theorem Gvn.zero (ks : List (Value × κ)) : Gvn ks 0 [] := ⟨fun p h => (by cases h), fun p h => (by simp at h)⟩
theorem Gvn.same {ks L : List (Value × κ)} {i : Nat} {x : Value × κ} (g : Gvn ks i L) (h : ks[i]? = some x) (hm : x.2 ∈ L.map (·.2)) : Gvn ks (i + 1) L := by
  refine ⟨fun p hp => ?_, fun p hp => ?_⟩
  · rw [take_next h]; exact List.mem_append_left _ (g.sub p hp)
  · rw [take_next h, List.mem_append, List.mem_singleton] at hp
    rcases hp with z | rfl
    · exact g.all p z
    · exact hm
theorem Gvn.more {ks L L' : List (Value × κ)} {i : Nat} {x : Value × κ} (g : Gvn ks i L) (h : ks[i]? = some x) (pm : L'.Perm (x :: L)) : Gvn ks (i + 1) L' := by
  refine ⟨fun p hp => ?_, fun p hp => ?_⟩
  · rw [take_next h]
    rcases List.mem_cons.mp (pm.mem_iff.mp hp) with rfl | z
    · exact List.mem_append_right _ (List.mem_singleton.mpr rfl)
    · exact List.mem_append_left _ (g.sub p z)
  · rw [(pm.map (·.2)).mem_iff, List.map_cons, List.mem_cons]
    rw [take_next h, List.mem_append, List.mem_singleton] at hp
    rcases hp with z | rfl
    · exact .inr (g.all p z)
    · exact .inl rfl
theorem len_sub {α : Type} : ∀ (l m : List α), l.Nodup → (∀ x ∈ l, x ∈ m) → l.length ≤ m.length
  | [], _, _, _ => Nat.zero_le _
  | x :: l, m, hn, hs => by
    classical
    obtain ⟨h1, h2⟩ := List.nodup_cons.mp hn
    have hx := hs x (List.mem_cons_self ..)
    have ih := len_sub l (m.erase x) h2 fun y hy => (List.mem_erase_of_ne (fun (e : y = x) => h1 (e ▸ hy))).mpr (hs y (List.mem_cons_of_mem _ hy))
    rw [List.length_erase_of_mem hx] at ih
    have := List.length_pos_of_mem hx
    rw [List.length_cons]; omega
section
variable {A : Around} {E : Value → Shared → Prop} {s : Shared}
theorem loop_in (hadd : Adds D) {I : Addr} {fp wr : List Addr} {G : Array GenState → Array GenState → Prop} {n : Nat} {Pv : Nat → Value → Prop} {St : Nat → Shared → Prop} {R : Result → Shared → Prop}
    (W : WalksS P w A.in1 I fp wr G n Pv St) (S : Addr) (hSf : S ∉ fp) (ks : List (Value × κ)) (hn : n = ks.length) (lim : List κ) (hlim : lim.length + 1 < 4000) (hkl : ∀ p ∈ ks, p.2 ∈ lim) (hval : ∀ i v, Pv i v → ∃ p, ks[i]? = some p ∧ v = p.1)
    (h0 : Heap) (hk : ∀ p ∈ ks, D.is h0 p.2 p.1) (hS0 : h0.get? S = none) (hw0 : ∀ b ∈ wr, h0.get? b = none) (hu : A.in1.units < cLine) :
    ∀ (k i : Nat) (s : Shared), n - i = k → i ≤ n → St i s → (∀ b o, h0.get? b = some o → s.heap.get? b = some o) → (∃ L es ep t, SR D s.heap S L es ep t ∧ Gvn ks i L) →
      (∀ s' L es ep t, Moved (S :: wr) G s s' → SR D s'.heap S L es ep t → Gvn ks n L → (∀ b o, h0.get? b = some o → s'.heap.get? b = some o) → R (.ok (.ret .none)) s') →
      codeAny (model P w) A (.builtin "set.update.loop" ⟨[.ref S, .ref I], []⟩) R s := by
  have hSw : S ∉ wr := fun h => hSf (W.sub _ h)
  have hsub : ∀ b ∈ wr, b ∈ S :: wr := fun b hb => List.mem_cons_of_mem _ hb
  have keepM : ∀ {s s' : Shared}, Moved wr G s s' → (∀ b o, h0.get? b = some o → s.heap.get? b = some o) → ∀ b o, h0.get? b = some o → s'.heap.get? b = some o := fun hm hkp b o e =>
    hm.heap b o (fun hb => by rw [hw0 b hb] at e; cases e) (hkp b o e)
  intro k
  induction k with
  | zero =>
    intro i s hk' hi hst hkp ⟨L, es, ep, t, hS, g⟩ hR
    obtain rfl : i = n := by omega
    refine codeAny_builtin F.entry_set_update_loop ?_
    rw [Around.under_plainId F.plain_set_update_loop _]
    show wpAny _ A.in1 (pyNext (.ref I) >>= _) _ _ s
    refine wpAny_bind (W.done s _ _ hst fun s' hm => ?_)
    show wpAny _ A.in1 (ret Value.none) _ _ s'
    have hkp' := keepM hm hkp
    exact wpAny_pure (hR s' L es ep t (hm.mono hsub) (hS.keep (fun o e => hm.heap S o hSw e) fun p hp => D.ext (hk p (List.mem_of_mem_take (g.sub p hp))) hkp') g hkp')
  | succ k ih =>
    intro i s hk' hi hst hkp ⟨L, es, ep, t, hS, g⟩ hR
    have hlt : i < n := by omega
    refine codeAny_builtin F.entry_set_update_loop ?_
    rw [Around.under_plainId F.plain_set_update_loop _]
    show wpAny _ A.in1 (pyNext (.ref I) >>= _) _ _ s
    refine wpAny_bind (W.item i s _ _ hlt hst fun v s' hP hst' hm => ?_)
    obtain ⟨p, hp, rfl⟩ := hval i v hP
    have hkp' := keepM hm hkp
    have sub : ∀ q ∈ L, q ∈ ks := fun q hq => List.mem_of_mem_take (g.sub q hq)
    have hS' : SR D s'.heap S L es ep t := hS.keep (fun o e => hm.heap S o hSw e) fun q hq => D.ext (hk q (sub q hq)) hkp'
    have hx : D.is s'.heap p.2 p.1 := D.ext (hk p (List.mem_of_getElem? hp)) hkp'
    have hfew : L.length + 1 < 4000 := by
      have := len_sub (L.map (·.2)) lim hS.nd fun x hx => by
        obtain ⟨q, hq, rfl⟩ := List.mem_map.mp hx
        exact hkl q (sub q hq)
      rw [List.length_map] at this
      omega
    show wpAny _ A.in1 (holding [p.1] (setAdd S p.1) >>= _) _ _ s'
    refine wpAny_bind (wpAny_holding ?_)
    refine hadd A.in1 _ s' S L es ep t p.1 p.2 _ hS' hx hu hfew fun b h' tk L' es' ep' t' hsb hS2 c1 c2 ht => ?_
    have g' : Gvn ks (i + 1) L' := by
      rcases Classical.em (p.2 ∈ L.map (·.2)) with c | c
      · rw [c1 c]; exact g.same hp c
      · exact g.more hp (c2 c)
    have hkp2 : ∀ b o, h0.get? b = some o → h'.get? b = some o := fun b o e => (hsb.2 b (fun z => by rw [z, hS0] at e; cases e)).trans (hkp' b o e)
    refine wpAny_pure ⟨plainId_quiet F.plain_set_update_loop _, ih (i + 1) _ (by omega) hlt (W.frame _ s' _ _ hst' ht fun b hb o e => ?_) hkp2 ⟨L', es', ep', t', hS2, g'⟩ fun s'' L2 es2 ep2 t2 hm'' hS'' g'' hkp'' => ?_⟩
    · rw [hsb.2 b fun z : b = S => hSf (z ▸ hb)]; exact e
    · refine hR s'' L2 es2 ep2 t2 (Moved.trans W.gtrans ((hm.mono hsub).then_heap ht fun b o hb e => ?_) hm'') hS'' g'' hkp''
      rw [hsb.2 b fun z : b = S => hb (by rw [z]; exact List.mem_cons_self)]; exact e
abbrev nSet (w : World) : Obj := { cls := .type "set", dict := none, data := .set #[] 0 (.fresh 0 0 (!w.params.followText "set-order")) }
theorem sr_new (h0 : D.tab (.fresh 0 0 (!w.params.followText "set-order")) []) {h : Heap} {a : Addr} (ho : h.get? a = some (nSet w)) : SR D h a [] #[] 0 (.fresh 0 0 (!w.params.followText "set-order")) where
  ob := ⟨_, ho, ⟨rfl, rfl, rfl⟩, rfl⟩
  rows := rfl
  nd := List.nodup_nil
  mem := fun p hp => by cases hp
  ris := List.Pairwise.nil
  fits := rfl
  led := by
    show _ ∨ (!w.params.followText "set-order") = true
    cases w.params.followText "set-order" <;> simp
  few := Nat.zero_lt_succ _
  tab := h0
set_option maxHeartbeats 3200000 in
/-- set(xs), xs a list or a tuple -/
theorem set_of (hadd : Adds D) (hnew : D.tab (.fresh 0 0 (!w.params.followText "set-order")) []) {l : Addr} {items : Array Value} (ks : List (Value × κ)) {Q : Value → Shared → Prop} (hh : A.handled = none)
    (hl : s.heap.IsList l items ∨ s.heap.IsTuple l items) (hit : items.toList = ks.map (·.1)) (lim : List κ) (hlim : lim.length + 1 < 4000) (hkl : ∀ p ∈ ks, p.2 ∈ lim)
    (hk : ∀ p ∈ ks, D.is s.heap p.2 p.1) (hu : A.units + 3 < cLine)
    (h : ∀ (h' : Heap) (tk : Nat) L es ep t, SR D h' s.heap.objs.size L es ep t → Gvn ks ks.length L → (∀ b o, s.heap.get? b = some o → h'.get? b = some o) → Q (.ref s.heap.objs.size) { s with heap := h', toks := tk }) :
    wpAny (model P w) A (call (.type "set") [.ref l]) Q E s := by
  have hisz : items.size = ks.length := by
    have q := congrArg List.length hit
    simpa using q
  have hval : ∀ (i : Nat) (v : Value), items[i]? = some v → ∃ p, ks[i]? = some p ∧ v = p.1 := fun i v hv => by
    have q : items.toList[i]? = some v := by rw [Array.getElem?_toList]; exact hv
    rw [hit, List.getElem?_map] at q
    cases hq : ks[i]? with
    | none => rw [hq] at q; cases q
    | some p =>
      rw [hq] at q
      exact ⟨p, rfl, (Option.some.inj q).symm⟩
  have none_of : ∀ b, s.heap.objs.size ≤ b → s.heap.get? b = none := fun b hb => by
    cases q : s.heap.get? b with
    | none => rfl
    | some o => exact absurd (Nat.lt_of_lt_of_le (Heap.lt_size q) hb) (Nat.lt_irrefl _)
  have hlS : l < s.heap.objs.size := by
    rcases hl with ⟨o, ho, _⟩ | ⟨o, ho, _⟩ <;> exact Heap.lt_size ho
  obtain ⟨c, tl, hmro⟩ := F.called_set.mro
  have hmade := F.called_set.made
  have hsub := F.called_set.sub
  refine wpAny_call (codeAny_of_tree ?_)
  show wpAny _ _ (callAny (.type "set") _) _ _ _
  refine wpAny_pure ⟨Code.quiet_builtin _ (by decide +kernel), codeAny_builtin F.entry_type_call ?_⟩
  rw [Around.under_plain (weight_type_call_type "set" [.ref l] []) rfl]
  have h1 := F.called_set.notType
  have h2 := F.called_set.canCreate
  have hct := F.typeCall_set_1 (.ref l)
  repeat (any_goals (first | assumption | wp_step))

  refine codeAny_mono (code_set_led1 (.ref l) (E := E) (Q₁ := fun obj s₁ => obj = .ref s.heap.objs.size ∧ s₁ = { s with heap := s.heap.push (nSet w) }) ⟨rfl, rfl⟩) fun r s₁ hr => ?_
  cases r with
  | error e => exact hr
  | ok fl =>
    cases fl with
    | ret obj =>
      obtain ⟨rfl, rfl⟩ := hr
      have hS : (s.heap.push (nSet w)).get? s.heap.objs.size = some (nSet w) := Heap.get?_push_size _ rfl
      have hT : Shared.TypeIs { s with heap := s.heap.push (nSet w) } (.ref s.heap.objs.size) "set" := ⟨_, hS, rfl⟩
      have hli := F.called_set.init.lookup
      have hbi := F.called_set.init.bind (.ref s.heap.objs.size)
      repeat (any_goals (first | assumption | wp_step))

      refine codeAny_mono (codeAny_call_builtin (R := wants (fun r s₂ => r = .none ∧ ∃ h' tk L es ep t, s₂ = { s with heap := h', toks := tk } ∧ SR D h' s.heap.objs.size L es ep t ∧ Gvn ks ks.length L ∧
          (∀ b o, s.heap.get? b = some o → h'.get? b = some o)) E) F.called_set.init.plain F.entry_set_init (check_set_init_1 hT ?_)) fun r₂ s₂ hr₂ => ?_
      · have hh3 : A.in1.in1.in1.handled = none := by simp [hh]
        have hneI : l ≠ (s.heap.push (nSet w)).objs.size := by
          rw [Heap.size_push]; exact Nat.ne_of_lt (Nat.lt_succ_of_lt hlS)
        have hSf : s.heap.objs.size ∉ [(s.heap.push (nSet w)).objs.size, l] := by
          rw [Heap.size_push, List.mem_cons, List.mem_singleton]
          exact fun z => z.elim (fun e => Nat.ne_of_lt (Nat.lt_succ_self _) e) fun e => Nat.ne_of_gt hlS e
        rcases hl with hl | hl
        · obtain ⟨ol, hol, hcl, nl, hdl⟩ := hl
          obtain ⟨ocls, odict, odata, oslots⟩ := ol
          simp only at hcl hdl
          subst hcl; subst hdl
          have hol' : (s.heap.push (nSet w)).get? l = some { cls := .type "list", dict := odict, data := .seq items nl, slots := oslots } := Heap.get?_push_of_some _ hol
          have hsls := F.sub_list_set
          have hslf := F.sub_list_frozenset
          have hne : (Value.type "list" == Value.type "dict") = false := by decide
          have hl1 : (s.heap.push (nSet w)).IsList l items := ⟨_, hol', rfl, nl, rfl⟩
          unfold Builtin.«set.__init__» noKeywords Builtin.Frozenset.updateFrom
          generalize hPI : pyIter = PI
          wp_walk
          subst hPI

          refine wpAny_pyIter_list hl1 ?_
          refine wpAny_bind (wpAny_runValue ?_)
          refine loop_in hadd ((Walks.list hh3 _ l hneI items).toS) s.heap.objs.size
            hSf ks hisz lim hlim hkl hval s.heap hk (none_of _ (Nat.le_refl _)) (fun b hb => none_of b (by
              rw [List.mem_singleton.mp hb, Heap.size_push]
              exact Nat.le_succ _)) hu (items.size - 0) 0 _ (by omega) (Nat.zero_le _)
            ⟨⟨_, Heap.get?_push_size _ rfl, rfl, rfl⟩, (hl1.push _)⟩ (fun b o e => Heap.get?_push_of_some _ (Heap.get?_push_of_some _ e)) ?hS0 ?hR
          case hS0 => exact ⟨[], #[], 0, _, sr_new hnew (Heap.get?_push_of_some _ hS), Gvn.zero ks⟩
          case hR =>
            intro s' L es ep t hm hS' g' hkp
            obtain ⟨h', g2, d', tk', os'⟩ := s'
            have eg : g2 = s.gens := hm.gens
            have ed : d' = s.drawn := hm.drawn
            have eo : os' = s.os := hm.os
            subst eg; subst ed; subst eo
            show wpAny _ _ _ _ _ _
            refine wpAny_pure ?_
            show wpAny _ _ (ret Value.none) _ _ _
            rw [hisz] at g'
            exact wpAny_pure ⟨rfl, h', tk', L, es, ep, t, rfl, hS', g', hkp⟩
        · obtain ⟨ol, hol, hcl, nl, hdl⟩ := hl
          obtain ⟨ocls, odict, odata, oslots⟩ := ol
          simp only at hcl hdl
          subst hcl; subst hdl
          have hol' : (s.heap.push (nSet w)).get? l = some { cls := .type "tuple", dict := odict, data := .seq items nl, slots := oslots } := Heap.get?_push_of_some _ hol
          have hsls := F.sub_tuple_set
          have hslf := F.sub_tuple_frozenset
          have hne : (Value.type "tuple" == Value.type "dict") = false := by decide
          have hl1 : (s.heap.push (nSet w)).IsTuple l items := ⟨_, hol', rfl, nl, rfl⟩
          unfold Builtin.«set.__init__» noKeywords Builtin.Frozenset.updateFrom
          generalize hPI : pyIter = PI
          wp_walk
          subst hPI

          refine wpAny_pyIter_tuple hl1 ?_
          refine wpAny_bind (wpAny_runValue ?_)
          refine loop_in hadd ((Walks.tuple hh3 _ l hneI items).toS) s.heap.objs.size
            hSf ks hisz lim hlim hkl hval s.heap hk (none_of _ (Nat.le_refl _)) (fun b hb => none_of b (by
              rw [List.mem_singleton.mp hb, Heap.size_push]
              exact Nat.le_succ _)) hu (items.size - 0) 0 _ (by omega) (Nat.zero_le _)
            ⟨⟨_, Heap.get?_push_size _ rfl, rfl, rfl⟩, (hl1.push _)⟩ (fun b o e => Heap.get?_push_of_some _ (Heap.get?_push_of_some _ e)) ?hS0 ?hR
          case hS0 => exact ⟨[], #[], 0, _, sr_new hnew (Heap.get?_push_of_some _ hS), Gvn.zero ks⟩
          case hR =>
            intro s' L es ep t hm hS' g' hkp
            obtain ⟨h', g2, d', tk', os'⟩ := s'
            have eg : g2 = s.gens := hm.gens
            have ed : d' = s.drawn := hm.drawn
            have eo : os' = s.os := hm.os
            subst eg; subst ed; subst eo
            show wpAny _ _ _ _ _ _
            refine wpAny_pure ?_
            show wpAny _ _ (ret Value.none) _ _ _
            rw [hisz] at g'
            exact wpAny_pure ⟨rfl, h', tk', L, es, ep, t, rfl, hS', g', hkp⟩
      · cases r₂ with
        | error e => exact hr₂
        | ok fl₂ =>
          cases fl₂ with
          | ret r =>
            obtain ⟨rfl, h', tk, L, es, ep, t, rfl, hS', g', hk'⟩ := hr₂
            repeat (any_goals (first | assumption | wp_step))
            exact h _ _ _ _ _ _ hS' g' hk'
          | _ => exact hr₂.elim
    | _ => exact hr.elim
/-- len(set) -/
theorem len_set {a : Addr} {L : List (Value × κ)} {es : Array (Int × Value)} {ep : Nat} {t : SetTable} {Q : Value → Shared → Prop} (R : SR D s.heap a L es ep t) (h : ∀ tk tk', Q (.int L.length tk) { s with toks := tk' }) :
    wpAny (model P w) A (call (.builtin "len") [.ref a]) Q E s := by
  obtain ⟨o, ho, hex, hd⟩ := R.ob
  have hz := R.size
  have hf := R.few
  refine call_len_set ho hex hd R.fits (by omega) ?_
  rw [hz]
  exact h _ _
/-- the members gathered -/
theorem members {a : Addr} {L : List (Value × κ)} {es : Array (Int × Value)} {ep : Nat} {t : SetTable} {Q : List Value → Shared → Prop} (R : SR D s.heap a L es ep t) (hh : A.handled = none)
    (hQ : ∀ (s' : Shared) (L' : List (Value × κ)), (∀ b o, s.heap.get? b = some o → s'.heap.get? b = some o) → s.heap.objs.size ≤ s'.heap.objs.size → s'.gens = s.gens → s'.os = s.os → L'.Perm L → Q (L'.map (·.1)) s') :
    wpAny (model P w) A (collect (.ref a)) Q E s := by
  obtain ⟨o, ho, hex, hd⟩ := R.ob
  have hz := R.size
  have hf := R.few
  refine collect_set hh ⟨o, ho, hex.1, hd⟩ R.fits (by unfold scanBound; omega) R.ris R.led fun s' out k z g o pm => ?_
  rw [R.rows, List.map_map] at pm
  have pm : out.Perm (L.map (·.1)) := pm
  obtain ⟨L', e, p⟩ : ∃ L' : List (Value × κ), out = L'.map (·.1) ∧ L'.Perm L := by
    clear k z g o hQ
    have key : ∀ (out : List Value) (L : List (Value × κ)), out.Perm (L.map (·.1)) → ∃ L' : List (Value × κ), out = L'.map (·.1) ∧ L'.Perm L := by
      intro out
      induction out with
      | nil =>
        intro L h
        have h0 : L.map (·.1) = [] := h.symm.eq_nil
        cases L with
        | nil => exact ⟨[], rfl, .refl _⟩
        | cons p L => cases h0
      | cons v out ih =>
        intro L h
        have hv : v ∈ L.map (·.1) := h.mem_iff.mp (List.mem_cons_self ..)
        obtain ⟨p, hp, rfl⟩ := List.mem_map.mp hv
        obtain ⟨L1, L2, rfl⟩ := List.append_of_mem hp
        have pm : (L1 ++ p :: L2).Perm (p :: (L1 ++ L2)) := List.perm_middle
        have h2 := h.trans (pm.map (·.1))
        rw [List.map_cons] at h2
        obtain ⟨L', e, q⟩ := ih (L1 ++ L2) h2.cons_inv
        exact ⟨p :: L', by rw [List.map_cons, e], (q.cons p).trans pm.symm⟩
    exact key out L pm
  rw [e]
  exact hQ s' L' k z g o p
end
end
end ZT
namespace ZT
open PySem PySem.Spec PyProof.Rows L2
theorem perm_map {α β : Type} (f : α → β) : ∀ (out : List β) (L : List α), out.Perm (L.map f) → ∃ L' : List α, out = L'.map f ∧ L'.Perm L
  | [], L, h => by
    have h0 : L.map f = [] := h.symm.eq_nil
    cases L with
    | nil => exact ⟨[], rfl, .refl _⟩
    | cons p L => cases h0
  | v :: out, L, h => by
    have hv : v ∈ L.map f := h.mem_iff.mp (List.mem_cons_self ..)
    obtain ⟨p, hp, rfl⟩ := List.mem_map.mp hv
    obtain ⟨L1, L2, rfl⟩ := List.append_of_mem hp
    have pm : (L1 ++ p :: L2).Perm (p :: (L1 ++ L2)) := List.perm_middle
    have h2 := h.trans (pm.map f)
    rw [List.map_cons] at h2
    obtain ⟨L', e, q⟩ := perm_map f out (L1 ++ L2) h2.cons_inv
    exact ⟨p :: L', by rw [List.map_cons, e], (q.cons p).trans pm.symm⟩
section
variable {P : Program} {w : World}
/-! ### ints and texts -/
def keyK (P : Program) (w : World) : SKind P w Key where
  is := fun _ k v => keyIs k v = true
  hash := keyH w
  tab := fun _ _ => True
  ext := fun h _ => h
  but := fun h _ _ _ => h
theorem key_scans {k : Key} {v : Value} (h : keyIs k v = true) : v.scannable = true := by
  rcases keyIs_shape h with ⟨i, t, rfl, rfl⟩ | ⟨x, t, rfl, rfl⟩ <;> rfl
theorem key_elems {L : List (Value × Key)} (h : ∀ p ∈ L, keyIs p.2 p.1 = true) : ElemsOf (mixKind P w) (L.map fun p => (keyH w p.2, p.1)) := fun e he => by
  obtain ⟨p, hp, rfl⟩ := List.mem_map.mp he
  exact ⟨⟨p.2, h p hp, rfl⟩, key_scans (h p hp)⟩
theorem adds_key : Adds (keyK P w) := by
  intro A E s a L es ep t x k Q R hk hu hfew hQ
  have hk : keyIs k x = true := hk
  have hsc := key_scans hk
  have hmem : ∀ p ∈ L, keyIs p.2 p.1 = true := R.mem
  have hrows : es.toList = L.map fun p => (keyH w p.2, p.1) := R.rows
  have hel : ElemsOf (mixKind P w) es.toList := by rw [hrows]; exact key_elems hmem
  have hz := R.size
  have hb : es.size < scanBound := by unfold scanBound; omega
  obtain ⟨o, ho, hex, hd⟩ := R.ob
  unfold setAdd
  refine wpAny_holding (wpAny_bind ((mixKind P w).pyHash (k := k) hk ?_))
  unfold setAddHashed setAddHashedIn
  refine wpAny_holding (wpAny_bind (wpAny_setState_of ho hd R.fits ?_))
  dsimp only
  rw [byScan_of hsc hb hel]
  simp only [↓reduceIte]
  unfold setAddByScan
  refine wpAny_bind ?_
  refine wpAny_bind (wpAny_rule ?_)
  refine wpAny_bind (wpAny_setScan_of (knd := mixKind P w) hk ho hd R.fits hel ?_)
  cases hfi : List.findIdx? (fun e => (mixKind P w).is k e.2) es.toList with
  | some j =>
    dsimp only
    obtain ⟨hj, pj, _⟩ := List.findIdx?_eq_some_iff_getElem.mp hfi
    have hm : k ∈ L.map (·.2) := by
      have he : es.toList[j] ∈ L.map fun p => (keyH w p.2, p.1) := by rw [← hrows]; exact List.getElem_mem hj
      obtain ⟨p, hp, e⟩ := List.mem_map.mp he
      rw [← e] at pj
      exact List.mem_map.mpr ⟨p, hp, (mixKind P w).inj _ _ _ (hmem p hp) pj⟩
    exact wpAny_pure (wpAny_pure (hQ false s.heap (s.toks + 1) L es ep t (Heap.SameBut.refl a s.heap) R (fun _ => rfl) (fun z => absurd hm z) (Nat.le_succ _)))
  | none =>
    dsimp only
    have hnk : k ∉ L.map (·.2) := fun z => by
      obtain ⟨p, hp, rfl⟩ := List.mem_map.mp z
      have c := List.findIdx?_eq_none_iff.mp hfi (keyH w p.2, p.1) (by rw [hrows]; exact List.mem_map.mpr ⟨p, hp, rfl⟩)
      have c2 : (mixKind P w).is p.2 p.1 = true := hmem p hp
      rw [c2] at c
      cases c
    have hgw : ∀ (b : Bool) {s₁ : Shared} {Q' : Unit → Shared → Prop}, Q' () s₁ → wpAny (model P w) A (match b with | true => rule "set.scan.the-table-gave-way" | false => pure ()) Q' E s₁ :=
      fun b s₁ Q' q => by cases b <;> first | exact wpAny_pure q | exact wpAny_rule q
    have pm := layNew_perm t es (keyH w k) x
    have hf1 := layNew_fits t es (keyH w k) x
    have hr1 := layNew_ris t es (keyH w k) x R.ris
    have hl1 := layNew_led t es (keyH w k) x
    have hmh : (mixKind P w).hash k = keyH w k := rfl
    rw [hmh]
    generalize layNew t es (keyH w k) x = Z at pm hf1 hr1 hl1 ⊢
    obtain ⟨es1, t1, wasDummy, gave⟩ := Z
    dsimp only at pm hf1 hr1 hl1 ⊢
    rw [Array.toList_push, hrows] at pm
    have pc : es1.toList.Perm (((x, k) :: L).map fun p => (keyH w p.2, p.1)) := pm.trans (List.perm_append_singleton _ _)
    obtain ⟨L1, e1, q1⟩ := perm_map _ _ _ pc
    have sz1 : es1.size = L.length + 1 := by
      have := pc.length_eq
      simpa using this
    have hb1 : es1.size < scanBound := by unfold scanBound; omega
    have hled : w.params.followText "set-order" = true ∨ t1.led = true := R.led.imp id fun z => by rw [hl1]; exact z
    have mk : ∀ (h' : Heap) (es2 : Array (Int × Value)) (ep2 : Nat) (t2 : SetTable) (o2 : Obj), Heap.SameBut a s.heap h' → h'.get? a = some o2 → o2.ExactSet → o2.data = .set es2 ep2 t2 → es2.toList.Perm es1.toList → t2.fits es2.size = true → Ris t2.place.toList →
        (w.params.followText "set-order" = true ∨ t2.led = true) → Q true { s with heap := h', toks := s.toks + 1 } := by
      intro h' es2 ep2 t2 o2 sb ho2 hx2 hd2 p2 f2 r2 l2
      rw [e1] at p2
      obtain ⟨L2, e2, q2⟩ := perm_map _ _ _ p2
      have q3 : L2.Perm ((x, k) :: L) := q2.trans q1
      refine hQ true h' (s.toks + 1) L2 es2 ep2 t2 sb ⟨⟨o2, ho2, hx2, hd2⟩, e2, ?_, fun p hp => ?_, r2, f2, l2, by rw [q3.length_eq]; exact hfew, trivial⟩ (fun z => absurd z hnk) (fun _ => q3) (Nat.le_succ _)
      · refine (q3.map (·.2)).nodup_iff.mpr ?_
        rw [List.map_cons]
        exact List.nodup_cons.mpr ⟨hnk, R.nd⟩
      · rcases List.mem_cons.mp (q3.mem_iff.mp hp) with rfl | hp
        · exact hk
        · exact hmem p hp
    have tail : ∀ (t2 : SetTable), t2.fits es1.size = true → Ris t2.place.toList → (w.params.followText "set-order" = true ∨ t2.led = true) → ∀ {g : Bool → Sem Unit}, (∀ (b : Bool) (s₁ : Shared) (Q' : Unit → Shared → Prop), Q' () s₁ → wpAny (model P w) A (g b) Q' E s₁) →
        ∀ {R' : Option Bool → Shared → Prop}, (∀ s₁, Q true s₁ → R' (some true) s₁) →
        wpAny (model P w) A (do
          storeSet a es1 t2
          if (!wasDummy && t2.tooFull) = true then do
              g (relayAll t2 es1 (SetTable.grown es1.size)).2.2
              storeSet a (relayAll t2 es1 (SetTable.grown es1.size)).1 (relayAll t2 es1 (SetTable.grown es1.size)).2.1
              pure (some true)
            else pure (some true)) R' E { s with toks := s.toks + 1 } := by
      intro t2 f2 r2 l2 g hg R' hR
      refine wpAny_bind (wpAny_storeSet_of ho hd ?_ (by rw [sz1, sizeLine_eq]; omega))
      have ho1 := store_at (es' := es1) (t' := t2) ho hd
      have sb1 := Heap.SameBut.update s.heap a (Obj.putSet es1 t2)
      split
      · have pm2 := relayAll_perm t2 es1 (SetTable.grown es1.size)
        have hf3 := relayAll_fits t2 es1 (SetTable.grown es1.size)
        have hr3 := relayAll_ris t2 es1 (SetTable.grown es1.size)
        have hl3 := relayAll_led t2 es1 (SetTable.grown es1.size)
        generalize relayAll t2 es1 (SetTable.grown es1.size) = Z at pm2 hf3 hr3 hl3 ⊢
        obtain ⟨es2, t3, gave2⟩ := Z
        dsimp only at pm2 hf3 hr3 hl3 ⊢
        have hs2 : es2.size = es1.size := by rw [← Array.length_toList, pm2.length_eq, Array.length_toList]
        refine wpAny_bind (hg _ _ _ ?_)
        refine wpAny_bind (wpAny_storeSet_of ho1 rfl ?_ (by rw [hs2, sz1, sizeLine_eq]; omega))
        have ho2 := store_at (es' := es2) (t' := t3) ho1 rfl
        exact wpAny_pure (hR _ (mk _ es2 _ t3 _ (sb1.trans (Heap.SameBut.update _ a _)) ho2 hex rfl pm2 hf3 hr3 (l2.imp id fun z => by rw [hl3]; exact z)))
      · exact wpAny_pure (hR _ (mk _ es1 _ t2 _ sb1 ho1 hex rfl (.refl _) f2 r2 l2))
    refine wpAny_bind (hgw _ ?_)
    split
    · refine wpAny_bind ?_
      rw [hashByValue_scannable 8 hsc]
      refine wpAny_pure ?_
      refine tail _ ?_ ?_ ?_ ?_ ?_
      · first | (split <;> first | exact hf1 | exact SetTable.fits_plain_off hf1) | exact hf1
      · first | (split <;> exact hr1) | exact hr1
      · first | (split <;> exact hled) | exact hled
      · intro b s₁ Q' q; cases b <;> first | exact wpAny_pure q | exact wpAny_rule q
      · intro s₁ q; dsimp only; exact wpAny_pure q
    · refine wpAny_bind (wpAny_pure ?_)
      simp only [↓reduceIte]
      refine tail _ hf1 hr1 hled ?_ ?_
      · intro b s₁ Q' q; cases b <;> first | exact wpAny_pure q | exact wpAny_rule q
      · intro s₁ q; dsimp only; exact wpAny_pure q
end
end ZT
namespace ZT
open PySem PySem.Spec PyProof.Rows L2
section
variable {P : Program} {w : World}
/-! ### tuples of ints and texts -/
def M6 (m : Nat) : Prop := m = 7 ∨ m = 31 ∨ m = 127 ∨ m = 511 ∨ m = 2047 ∨ m = 8191
theorem M6.mk {m : Nat} (h : M6 m) : MK m := by
  rcases h with rfl | rfl | rfl | rfl | rfl | rfl
  · exact ⟨3, by decide, by decide, rfl⟩
  · exact ⟨5, by decide, by decide, rfl⟩
  · exact ⟨7, by decide, by decide, rfl⟩
  · exact ⟨9, by decide, by decide, rfl⟩
  · exact ⟨11, by decide, by decide, rfl⟩
  · exact ⟨13, by decide, by decide, rfl⟩
abbrev IsK (P : Program) (w : World) (h : Heap) (k : List Key) (b : Addr) : Prop := IsTupleKey (mixKind P w) h k b
abbrev tH (P : Program) (w : World) (k : List Key) : Int := tupleKeyHash (mixKind P w) k
def tupK (P : Program) (w : World) : SKind P w (List Key) where
  is := fun h k v => ∃ b, v = .ref b ∧ IsK P w h k b
  hash := tH P w
  tab := fun t hs => Tb t hs ∧ M6 t.mask ∧ hs.length * 5 < t.mask * 3
  ext := fun ⟨b, e, o, items, n, ho, r⟩ hk => ⟨b, e, o, items, n, hk b o ho, r⟩
  but := fun {h h' k v a o es ep t} ⟨b, e, o', items, n, ho', hc, hd', hi⟩ ho hd hs => by
    have hne : b ≠ a := by
      rintro rfl
      obtain rfl : o' = o := Option.some.inj (ho'.symm.trans ho)
      rw [hd] at hd'
      exact nomatch hd'
    exact ⟨b, e, o', items, n, (hs.2 b hne).trans ho', hc, hd', hi⟩
variable {A : Around} {E : Value → Shared → Prop} {s : Shared}
theorem item_shape {k : List Key} {vs : List Value} (h : ItemsAre (mixKind P w) k vs) : ∀ v ∈ vs, (∃ i t, v = Value.int i t) ∨ ∃ x t, v = Value.str x t := by
  induction h with
  | nil => intro v hv; cases hv
  | @cons k0 v' ks vs h1 _ ih =>
    intro v hv
    rcases List.mem_cons.mp hv with rfl | hv
    · rcases keyIs_shape (k := k0) (v := v) h1 with ⟨i, t, _, e⟩ | ⟨x, t, _, e⟩
      · exact .inl ⟨i, t, e⟩
      · exact .inr ⟨x, t, e⟩
    · exact ih v hv
theorem no_class (n : Nat) {v : Value} (h : (∃ i t, v = Value.int i t) ∨ ∃ x t, v = Value.str x t) : ofAClassStatement n v = pure false := by
  rcases h with ⟨i, t, rfl⟩ | ⟨x, t, rfl⟩ <;> cases n <;> rfl
theorem by_hash (n : Nat) {v : Value} (h : (∃ i t, v = Value.int i t) ∨ ∃ x t, v = Value.str x t) : ∃ b, hashByValue n v = pure b := by
  rcases h with ⟨i, t, rfl⟩ | ⟨x, t, rfl⟩ <;> cases n <;> exact ⟨_, rfl⟩
theorem class_tup {k : List Key} {b : Addr} {Q : Bool → Shared → Prop} (hk : IsK P w s.heap k b) (h : Q false s) : wpAny (model P w) A (ofAClassStatement 8 (.ref b)) Q E s := by
  have hT := hk.typeIs
  obtain ⟨o, items, n, ho, _, hd, hi⟩ := hk
  unfold ofAClassStatement
  refine wpAny_bind (wpAny_typeOf hT ?_)
  dsimp only
  have e : (("tuple" : String) == "tuple") = true := by decide
  simp only [e, if_true, Bool.not_true, Bool.false_eq_true, if_false]
  try refine wpAny_bind (wpAny_pure ?_)
  try simp only [Bool.not_true, Bool.false_eq_true, if_false]
  show wpAny _ _ (seqItems? (.ref b) >>= _) _ _ s
  refine wpAny_bind (wpAny_seqItems ho hd ?_)
  dsimp only
  refine wpAny_bind ?_
  show wpAny _ _ (forIn items _ _) _ _ s
  rw [← Array.forIn_toList]
  refine wpAny_forIn_list _ (fun rest r s' => r.1 = none ∧ s' = s ∧ ∀ v ∈ rest, (∃ i t, v = Value.int i t) ∨ ∃ x t, v = Value.str x t) _ ?_ ?_ _ _ ⟨rfl, rfl, item_shape hi⟩
  · rintro v rest r s' ⟨hr, rfl, hall⟩
    rw [no_class _ (hall v List.mem_cons_self)]
    refine wpAny_bind (wpAny_pure ?_)
    simp only [Bool.false_eq_true, if_false]
    exact wpAny_pure ⟨rfl, rfl, fun u hu => hall u (List.mem_cons_of_mem _ hu)⟩
  · rintro ⟨r1, r2⟩ s' ⟨hr, rfl, _⟩
    simp only at hr
    subst hr
    exact wpAny_pure h
theorem hashed_tup {k : List Key} {b : Addr} {Q : Bool → Shared → Prop} (hk : IsK P w s.heap k b) (h : ∀ c, Q c s) : wpAny (model P w) A (hashByValue 8 (.ref b)) Q E s := by
  have hT := hk.typeIs
  obtain ⟨o, items, n, ho, _, hd, hi⟩ := hk
  unfold hashByValue
  refine wpAny_bind (wpAny_specialOf hT F.slot_tuple_hash.lookup ?_)
  show wpAny _ _ (seqItems? (.ref b) >>= _) _ _ s
  refine wpAny_bind (wpAny_seqItems ho hd ?_)
  refine wpAny_bind ?_
  show wpAny _ _ (forIn items _ _) _ _ s
  rw [← Array.forIn_toList]
  refine wpAny_forIn_list _ (fun rest r s' => r.1 = none ∧ s' = s ∧ ∀ v ∈ rest, (∃ i t, v = Value.int i t) ∨ ∃ x t, v = Value.str x t) _ ?_ ?_ _ _ ⟨rfl, rfl, item_shape hi⟩
  · rintro v rest r s' ⟨hr, rfl, hall⟩
    obtain ⟨c, hc⟩ := by_hash 7 (hall v List.mem_cons_self)
    rw [hc]
    refine wpAny_bind (wpAny_pure ?_)
    cases c with
    | true =>
      simp only [Bool.not_true, Bool.false_eq_true, if_false]
      exact wpAny_pure ⟨rfl, rfl, fun u hu => hall u (List.mem_cons_of_mem _ hu)⟩
    | false =>
      simp only [Bool.not_false, if_true]
      exact wpAny_pure (wpAny_pure (h _))
  · rintro ⟨r1, r2⟩ s' ⟨hr, rfl, _⟩
    simp only at hr
    subst hr
    exact wpAny_pure (h _)
theorem quiet_tup {k : List Key} {b : Addr} {Q : Bool → Shared → Prop} (hk : IsK P w s.heap k b) {ys : List Value} (hy : ∀ y ∈ ys, ∃ k' c, y = Value.ref c ∧ IsK P w s.heap k' c) (h : Q false s) :
    wpAny (model P w) A (searchCouldBeSeen (.ref b) ys) Q E s := by
  unfold searchCouldBeSeen
  refine wpAny_bind ?_
  refine wpAny_forIn_list _ (fun rest r s' => r.1 = none ∧ s' = s ∧ ∀ y ∈ rest, ∃ k' c, y = Value.ref c ∧ IsK P w s.heap k' c) _ ?_ ?_ _ _ ⟨rfl, rfl, hy⟩
  · rintro v rest r s' ⟨hr, rfl, hall⟩
    obtain ⟨k', c, rfl, hc⟩ := hall v List.mem_cons_self
    have rest' : ∀ y ∈ rest, ∃ k' c, y = Value.ref c ∧ IsK P w s'.heap k' c := fun u hu' => hall u (List.mem_cons_of_mem _ hu')
    dsimp only
    by_cases hv : (b == c || (carriedByValue (.ref b) && carriedByValue (.ref c))) = true
    · refine wp_if_pos hv ?_
      exact wpAny_pure ⟨rfl, rfl, rest'⟩
    · refine wp_if_neg hv ?_
      refine wpAny_bind (wpAny_eqIsQuiet_tuple hk ?_)
      simp only [Bool.not_true, Bool.false_eq_true, if_false]
      refine wpAny_bind (wpAny_eqIsQuiet_tuple hc ?_)
      simp only [Bool.not_true, Bool.false_eq_true, if_false]
      refine wpAny_bind (class_tup hk ?_)
      simp only [Bool.false_eq_true, if_false]
      refine wpAny_bind (class_tup hc ?_)
      simp only [Bool.false_eq_true, if_false]
      exact wpAny_pure ⟨rfl, rfl, rest'⟩
  · rintro ⟨r1, r2⟩ s' ⟨hr, rfl, _⟩
    simp only at hr
    subst hr
    exact wpAny_pure h
variable {a : Addr} {L : List (Value × List Key)} {es : Array (Int × Value)} {ep : Nat} {t : SetTable}
theorem tab_of {h : Heap} (R : SR (tupK P w) h a L es ep t) : Tb t (L.map fun p : Value × List Key => tH P w p.2) ∧ M6 t.mask ∧ L.length * 5 < t.mask * 3 := by
  have h1 : Tb t (L.map fun p : Value × List Key => tH P w p.2) ∧ M6 t.mask ∧ (L.map fun p : Value × List Key => tH P w p.2).length * 5 < t.mask * 3 := R.tab
  rw [List.length_map] at h1
  exact h1
abbrev w0 (t : SetTable) (h : Int) : SetTable.Probe := runAt t.mask (SetTable.bits h % (t.mask + 1)) (SetTable.bits h)
theorem nth_dummy (m : Nat) : ∀ (n : Nat) (p : SetTable.Probe), p.dummy = none → (nth m p n).dummy = none
  | 0, p, h => h
  | n + 1, p, h => nth_dummy m n (adv m p) (by unfold adv; split <;> exact h)
theorem look_from (R : SR (tupK P w) s.heap a L es ep t) {x : Addr} {k : List Key} (hx : IsK P w s.heap k x) (hu : A.units < cLine) {K : Nat} (hKf : K < 10 * SetTable.turns t.mask)
    (hK : way t.mask (tH P w k) K ∉ t.place.toList) (hKb : ∀ c, c < K → way t.mask (tH P w k) c ∈ t.place.toList) {Q : SetFound → Shared → Prop}
    (hin : k ∈ L.map (·.2) → Q (.there none) s) (hout : k ∉ L.map (·.2) → Q (.free (way t.mask (tH P w k) K) false) s) :
    ∀ (f c : Nat) (stand : Option SetTable.Probe), stand.getD (t.probeStart (tH P w k)) = nth t.mask (w0 t (tH P w k)) c → c ≤ K → K - c < f →
      (∀ (i : Nat) p, L[i]? = some p → p.2 = k → ∃ c', c ≤ c' ∧ c' < K ∧ t.place.toList[i]? = some (way t.mask (tH P w k) c')) →
      wpAny (model P w) A (setSearchFrom a (.ref x) (tH P w k) true f stand) Q E s
  | 0, c, stand, _, _, hf, _ => absurd hf (Nat.not_lt_zero _)
  | f + 1, c, stand, hst, hc, hf, hre => by
    obtain ⟨o, ho, hex, hd⟩ := R.ob
    obtain ⟨T, m6, room⟩ := tab_of R
    have hrows : es.toList = L.map fun p => (tH P w p.2, p.1) := R.rows
    have hmem : ∀ p ∈ L, ∃ b, p.1 = .ref b ∧ IsK P w s.heap p.2 b := R.mem
    have hgw : ¬ t.gaveWay = true := by
      have := m6.mk.pos.2.2
      unfold SetTable.gaveWay
      rw [this]; decide
    have ent : ∀ (i : Nat) p, L[i]? = some p → es[i]? = some (tH P w p.2, p.1) := fun i p h => by
      rw [← Array.getElem?_toList, hrows, List.getElem?_map, h]; rfl
    rw [setSearchFrom_succ]
    refine wpAny_bind (wpAny_setState_of ho hd R.fits ?_)
    dsimp only
    refine wp_if_neg hgw ?_
    try refine wpAny_bind (wpAny_pure ?_)
    have e1 : ∀ q, (nth t.mask (nth t.mask (w0 t (tH P w k)) c) q).j = way t.mask (tH P w k) (c + q) := fun q => congrArg SetTable.Probe.j (nth_add t.mask c _ q).symm
    have eK : c + (K - c) = K := by omega
    have spec := go_spec t R.ris T.dm (fun i => (es[i]?.map (·.1)).getD 0) (tH P w k) (10 * SetTable.turns t.mask) (K - c) (nth t.mask (w0 t (tH P w k)) c) (nth_dummy _ c _ rfl) (by omega)
      (fun q hq => by rw [e1]; exact hKb (c + q) (by omega)) (by rw [e1, eK]; exact hK)
    have hashAt : ∀ (i : Nat) p, L[i]? = some p → (es[i]?.map (·.1)).getD 0 = tH P w p.2 := fun i p hp => by
      rw [ent i p hp]; rfl
    rcases spec with ⟨q, i, hq, hi, hh, hno, hpr⟩ | ⟨hno, hpr⟩
    · have hpr' : t.probe (fun i => (es[i]?.map (·.1)).getD 0) (tH P w k) (stand.getD (t.probeStart (tH P w k))) = some (.candidate (way t.mask (tH P w k) (c + q)) i (nth t.mask (w0 t (tH P w k)) (c + (q + 1)))) := by
        rw [hst, ← e1, nth_add t.mask c _ (q + 1)]
        exact hpr
      rw [hpr']
      dsimp only
      rw [e1] at hi
      have hil : i < L.length := by
        have h1 : i < t.place.toList.length := (List.getElem?_eq_some_iff.mp hi).1
        have h2 := T.sz
        rw [List.length_map] at h2
        rw [Array.length_toList] at h1
        omega
      have hp : L[i]? = some L[i] := List.getElem?_eq_getElem hil
      generalize L[i] = p at hp
      have hpm : p ∈ L := List.mem_of_getElem? hp
      obtain ⟨pv, pk⟩ := p
      obtain ⟨pb, epv, hpt⟩ := hmem _ hpm
      simp only at epv hpt
      subst epv
      have rest : wpAny (model P w) A (searchRest a (.ref x) (tH P w k) true f es t (way t.mask (tH P w k) (c + q)) i (nth t.mask (w0 t (tH P w k)) (c + (q + 1)))) Q E s := by
        unfold searchRest
        rw [ent i _ hp]
        dsimp only
        refine wpAny_bind (wpAny_holding (wpAny_eqBool_tuple hu hpt hx ?_))
        refine wpAny_bind (wpAny_setState_of ho hd R.fits ?_)
        dsimp only
        by_cases hkk : pk = k
        · refine wp_if_pos (by simp [hkk]) ?_
          exact wpAny_pure (hin (List.mem_map.mpr ⟨_, hpm, hkk⟩))
        · refine wp_if_neg (by simp [hkk]) ?_
          try refine wpAny_bind (wpAny_pure ?_)
          rw [sameMem]
          dsimp only
          have hsl : t.slot (way t.mask (tH P w k) (c + q)) = .live i := slot_live R.ris hi
          simp only [if_true, hsl, ent i _ hp]
          refine wpAny_bind (wpAny_isSame_ref_self (wpAny_bind (wpAny_pure ?_)))
          simp only [if_true]
          refine wp_if_neg (by simp [hkk]) ?_
          refine look_from R hx hu hKf hK hKb hin hout f (c + (q + 1)) _ rfl (by omega) (by omega) fun i0 p0 h0 hk0 => ?_
          obtain ⟨c', a1, a2, a3⟩ := hre i0 p0 h0 hk0
          refine ⟨c', ?_, a2, a3⟩
          rcases Nat.lt_trichotomy c' (c + q) with z | z | z
          · refine absurd ((hashAt i0 p0 h0).trans (congrArg (tH P w) hk0)) (hno (c' - c) i0 (by omega) ?_)
            rw [e1, show c + (c' - c) = c' by omega]; exact a3
          · rw [z] at a3
            have s0 := slot_live R.ris a3
            rw [hsl] at s0
            injection s0 with s0
            rw [← s0, hp] at h0
            exact absurd ((congrArg Prod.snd (Option.some.inj h0)).trans hk0) hkk
          · omega
      by_cases hl : t.led = true
      · refine wp_if_neg (by simp [hl]) ?_
        try refine wpAny_bind (wpAny_pure ?_)
        exact rest
      · refine wp_if_pos (by simp [hl]) ?_
        refine wpAny_bind (quiet_tup hx (fun y hy => ?_) ?_)
        · obtain ⟨e, he, rfl⟩ := List.mem_map.mp hy
          have he2 : e ∈ es.toList := by
            have := Array.mem_toList_iff.mp he
            exact Array.mem_toList_iff.mpr (Array.mem_filter.mp this).1
          rw [hrows] at he2
          obtain ⟨p2, hp2, rfl⟩ := List.mem_map.mp he2
          obtain ⟨b, e, r⟩ := hmem p2 hp2
          exact ⟨p2.2, b, e, r⟩
        · refine wp_if_neg (by decide) ?_
          try refine wpAny_bind (wpAny_pure ?_)
          exact rest
    · have hpr' : t.probe (fun i => (es[i]?.map (·.1)).getD 0) (tH P w k) (stand.getD (t.probeStart (tH P w k))) = some (.empty (way t.mask (tH P w k) K) none) := by
        rw [e1, eK] at hpr
        rw [hst]
        exact hpr
      rw [hpr']
      dsimp only
      refine wpAny_pure (hout fun hm => ?_)
      obtain ⟨p0, h0, hk0⟩ := List.mem_map.mp hm
      obtain ⟨i0, hi0, e0⟩ := List.getElem_of_mem h0
      have h00 : L[i0]? = some p0 := by rw [List.getElem?_eq_getElem hi0, e0]
      obtain ⟨c', a1, a2, a3⟩ := hre i0 p0 h00 hk0
      refine hno (c' - c) i0 (by omega) ?_ ((hashAt i0 p0 h00).trans (congrArg (tH P w) hk0))
      rw [e1, show c + (c' - c) = c' by omega]; exact a3
theorem look_at (R : SR (tupK P w) s.heap a L es ep t) {x : Addr} {k : List Key} (hx : IsK P w s.heap k x) (hu : A.units < cLine) {Q : SetFound → Shared → Prop}
    (hin : k ∈ L.map (·.2) → Q (.there none) s)
    (hout : ∀ K, k ∉ L.map (·.2) → way t.mask (tH P w k) K ∉ t.place.toList → (∀ c, c < K → way t.mask (tH P w k) c ∈ t.place.toList) → Q (.free (way t.mask (tH P w k) K) false) s) :
    wpAny (model P w) A (setSearch a (.ref x) (tH P w k) true) Q E s := by
  obtain ⟨T, m6, room⟩ := tab_of R
  have hm := m6.mk.pos
  obtain ⟨K, hKf, hK, hKb⟩ := T.gap (by rw [List.length_map]; omega) (tH P w k)
  have hbig : K < 100000 := by
    have : SetTable.turns t.mask = t.mask + 15 := rfl
    omega
  unfold setSearch
  refine look_from R hx hu hKf hK hKb hin (fun hn => hout K hn hK hKb) 100000 0 none rfl (Nat.zero_le _) (by omega) fun i p hp hk => ?_
  have hi : (L.map fun p => tH P w p.2)[i]? = some (tH P w k) := by rw [List.getElem?_map, hp, ← hk]; rfl
  have hil : i < t.place.toList.length := by
    have h1 : i < L.length := (List.getElem?_eq_some_iff.mp hp).1
    have h2 := T.sz
    rw [List.length_map] at h2
    rw [Array.length_toList]
    omega
  have hj := List.getElem?_eq_getElem hil
  obtain ⟨c, hc, e⟩ := T.ahead hK hi hj
  exact ⟨c, Nat.zero_le _, hc, by rw [hj, e]⟩
end
end ZT
namespace ZT
open PySem PySem.Spec PyProof.Rows L2
section
variable {P : Program} {w : World} {A : Around} {E : Value → Shared → Prop} {s : Shared}
theorem Tb.off {t : SetTable} {hs : List Int} (T : Tb t hs) : Tb { t with plain := false } hs := ⟨T.ris, T.dm, T.sz, T.mok, T.bd, T.fnd⟩
/-- what stands in the order of the new table -/
theorem in_order {α : Type} (f : α → Int × Value) (L : List α) (es : Array (Int × Value)) (order : Array Nat) (hr : es.toList = L.map f) (hp : order.toList.Perm (List.range L.length)) :
    ∃ L2 : List α, (order.filterMap (es[·]?)).toList = L2.map f ∧ L2.Perm L ∧ (L2.map fun p => (f p).1) = order.toList.map fun i => (es.map (·.1)).getD i 0 := by
  have hsz : es.size = L.length := by have := congrArg List.length hr; simpa using this
  have ent : ∀ (i : Nat) p, L[i]? = some p → es[i]? = some (f p) := fun i p h => by
    rw [← Array.getElem?_toList, hr, List.getElem?_map, h]; rfl
  have key : ∀ l : List Nat, (∀ i ∈ l, i < L.length) → l.filterMap (fun i => es[i]?) = (l.filterMap fun i => L[i]?).map f ∧ ((l.filterMap fun i => L[i]?).map fun p => (f p).1) = l.map fun i => (es.map (·.1)).getD i 0 := by
    intro l
    induction l with
    | nil => intro _; exact ⟨rfl, rfl⟩
    | cons i l ih =>
      intro hl
      have hi := hl i (List.mem_cons_self ..)
      obtain ⟨e1, e2⟩ := ih fun j hj => hl j (List.mem_cons_of_mem _ hj)
      have h1 : L[i]? = some L[i] := List.getElem?_eq_getElem hi
      have h2 := ent i _ h1
      have h3 : (es.map (·.1)).getD i 0 = (f L[i]).1 := by
        rw [Array.getD_eq_getD_getElem?, Array.getElem?_map, h2]; rfl
      refine ⟨?_, ?_⟩
      · rw [List.filterMap_cons_some h2, List.filterMap_cons_some h1, List.map_cons, e1]
      · rw [List.filterMap_cons_some h1, List.map_cons, List.map_cons, e2, h3]
  obtain ⟨e1, e2⟩ := key order.toList fun i hi => List.mem_range.mp (hp.mem_iff.mp hi)
  refine ⟨order.toList.filterMap fun i => L[i]?, by rw [Array.toList_filterMap]; exact e1, ?_, e2⟩
  have h1 : (order.toList.filterMap fun i => L[i]?).Perm ((List.range L.length).filterMap fun i => L[i]?) := hp.filterMap _
  have h2 : (List.range L.length).filterMap (fun i => L[i]?) = L := by
    clear key ent e1 e2 h1 hp hr hsz
    have k2 : ∀ n, n ≤ L.length → (List.range n).filterMap (fun i => L[i]?) = L.take n := by
      intro n
      induction n with
      | zero => intro _; rfl
      | succ n ih =>
        intro hn
        have hx : L[n]? = some L[n] := List.getElem?_eq_getElem hn
        rw [List.range_succ, List.filterMap_append, ih (by omega), List.take_succ, hx, List.filterMap_cons_some hx]; rfl
    rw [k2 _ (Nat.le_refl _), List.take_length]
  rw [h2] at h1
  exact h1
variable {a : Addr} {L : List (Value × List Key)} {es : Array (Int × Value)} {ep : Nat} {t : SetTable}
theorem wider {o : Obj} (ho : s.heap.get? a = some o) (hex : o.ExactSet) (hd : o.data = .set es ep t) (hrows : es.toList = L.map fun p => (tH P w p.2, p.1)) (T0 : Tb t (L.map fun p : Value × List Key => tH P w p.2)) (hfl : L.length ≤ t.mask)
    (nd : (L.map (·.2)).Nodup) (mem : ∀ p ∈ L, (tupK P w).is s.heap p.2 p.1) (ld : w.params.followText "set-order" = true ∨ t.led = true) (few : L.length < 4000) {wanted M : Nat}
    (hw : SetTable.sizeAbove wanted = M + 1) (hM : M6 M) (hn : L.length * 5 < M * 3) {Q : Unit → Shared → Prop}
    (hQ : ∀ h' L' es' ep' t', Heap.SameBut a s.heap h' → SR (tupK P w) h' a L' es' ep' t' → L'.Perm L → Q () { s with heap := h' }) : wpAny (model P w) A (setRelay a wanted) Q E s := by
  have hsl : es.size = L.length := by have := congrArg List.length hrows; simpa using this
  have hpz := T0.sz
  rw [List.length_map] at hpz
  have hMk := hM.mk.pos
  have hfits : t.fits es.size = true := by
    unfold SetTable.fits SetTable.fill
    rw [T0.dm, Bool.and_eq_true, beq_iff_eq, decide_eq_true_eq]
    show t.place.size = es.size ∧ t.place.size + 0 ≤ t.mask
    omega
  obtain ⟨t', order, e, hp, T, em, el, epl, ed⟩ := anew t (hs := es.map (·.1)) (wanted := wanted) (M := M) (by omega) hM.mk (by rw [Array.size_map]; omega)
  rw [Array.size_map, hsl] at hp
  obtain ⟨L2, r1, r2, r3⟩ := in_order (fun p : Value × List Key => (tH P w p.2, p.1)) L es order hrows hp
  rw [← r3] at T
  have hs2 : (order.filterMap (es[·]?)).size = es.size := by
    have := congrArg List.length r1
    rw [List.length_map, r2.length_eq, Array.length_toList] at this
    omega
  rw [setRelay_eq]
  refine wpAny_bind (wpAny_setState_of ho hd hfits ?_)
  dsimp only
  refine wp_if_neg (by rw [sizeLine_eq]; omega) ?_
  try refine wpAny_bind (wpAny_pure ?_)
  rw [e]
  dsimp only
  refine wpAny_bind ?_
  refine wp_if_neg (by rw [hs2]; simp) ?_
  try refine wpAny_bind (wpAny_pure ?_)
  refine wpAny_pure ?_
  dsimp only
  refine wpAny_storeSet_of ho hd ?_ (by rw [hs2, hsl, sizeLine_eq]; omega)
  have sb : Heap.SameBut a s.heap (s.heap.update a (Obj.putSet (order.filterMap (es[·]?)) t')) := Heap.SameBut.update ..
  have hl2 := r2.length_eq
  have hpz2 := T.sz
  rw [List.length_map] at hpz2
  refine hQ _ L2 (order.filterMap (es[·]?)) (ep + 1) t' sb ⟨⟨_, store_at ho hd, ⟨hex.1, hex.2.1, hex.2.2⟩, rfl⟩, r1, (r2.map (·.2)).nodup_iff.mpr nd, fun p hpm => (tupK P w).but (mem p (r2.mem_iff.mp hpm)) ho hd sb, T.ris, ?_, by rw [el]; exact ld, by omega, T, by rw [em]; exact hM, by rw [List.length_map, em]; omega⟩ r2
  unfold SetTable.fits SetTable.fill
  rw [T.dm, Bool.and_eq_true, beq_iff_eq, decide_eq_true_eq]
  show t'.place.size = (order.filterMap (es[·]?)).size ∧ t'.place.size + 0 ≤ t'.mask
  omega
theorem adds_tup : Adds (tupK P w) := by
  intro A E s a L es ep t x k Q R hk hu hfew hQ
  obtain ⟨b, rfl, hx⟩ : ∃ b, x = .ref b ∧ IsK P w s.heap k b := hk
  have hmem : ∀ p ∈ L, (tupK P w).is s.heap p.2 p.1 := R.mem
  have hrows : es.toList = L.map fun p => (tH P w p.2, p.1) := R.rows
  obtain ⟨T, m6, room⟩ := tab_of R
  have hsl := R.size
  have hmk := m6.mk.pos
  obtain ⟨o, ho, hex, hd⟩ := R.ob
  unfold setAdd
  refine wpAny_holding (wpAny_bind (wpAny_pyHash_tuple hu hx ?_))
  unfold setAddHashed
  refine wpAny_holding ?_
  rw [show (100000 : Nat) = 99999 + 1 from rfl, setAddHashedIn_succ]
  refine wpAny_bind (wpAny_setState_of ho hd R.fits ?_)
  dsimp only
  refine wp_if_neg (by simp [byScan, Value.scannable]) ?_
  try refine wpAny_bind (wpAny_pure ?_)
  have R1 : SR (tupK P w) { s with toks := s.toks + (k.length + 1) }.heap a L es ep t := R
  have tk : s.toks ≤ s.toks + (k.length + 1) := Nat.le_add_right _ _
  refine wpAny_bind (look_at (s := { s with toks := s.toks + (k.length + 1) }) R1 hx hu (fun hm => ?_) fun K hm hK hb => ?_)
  · dsimp only
    exact wpAny_pure (hQ false s.heap _ L es ep t (Heap.SameBut.refl a s.heap) R (fun _ => rfl) (fun z => absurd hm z) tk)
  · dsimp only
    refine wpAny_bind (wpAny_setState_of ho hd R.fits ?_)
    dsimp only
    obtain ⟨p, hpe⟩ : ∃ p, p = SetTable.below t.place (way t.mask (tH P w k) K) := ⟨_, rfl⟩
    obtain ⟨q2, q3, q9⟩ := T.more hK hb hpe
    have q4 : (t.put (way t.mask (tH P w k) K)).1.mask = t.mask := rfl
    have q5 : (t.put (way t.mask (tH P w k) K)).1.led = t.led := rfl
    have q1 : (t.put (way t.mask (tH P w k) K)).2 = p := by rw [hpe]; rfl
    generalize t.put (way t.mask (tH P w k) K) = pt at q1 q3 q4 q5 q9 ⊢
    obtain ⟨t1, p'⟩ := pt
    dsimp only at q1 q3 q4 q5 q9 ⊢
    subst q1
    rw [List.length_map] at q2 q9
    have hin : (SetTable.insertAt es p' (tH P w k, Value.ref b)).toList = (L.take p' ++ (Value.ref b, k) :: L.drop p').map fun p => (tH P w p.2, p.1) := by
      rw [SetTable.toList_insertAt, hrows, List.map_append, List.map_cons, List.map_take, List.map_drop]
    have pm := put_perm L p' (Value.ref b, k)
    have hlen : (L.take p' ++ (Value.ref b, k) :: L.drop p').length = L.length + 1 := pm.length_eq
    have hhs : (L.take p' ++ (Value.ref b, k) :: L.drop p').map (fun p : Value × List Key => tH P w p.2) = (L.map fun p : Value × List Key => tH P w p.2).take p' ++ tH P w k :: (L.map fun p : Value × List Key => tH P w p.2).drop p' := by
      rw [List.map_append, List.map_cons, List.map_take, List.map_drop]
    rw [← hhs] at q3
    have nd1 : ((L.take p' ++ (Value.ref b, k) :: L.drop p').map (·.2)).Nodup := by
      refine (pm.map (·.2)).nodup_iff.mpr ?_
      rw [List.map_cons]
      exact List.nodup_cons.mpr ⟨hm, R.nd⟩
    have hes : (SetTable.insertAt es p' (tH P w k, Value.ref b)).size = L.length + 1 := by
      have h := congrArg List.length hin
      rw [Array.length_toList, List.length_map, hlen] at h
      exact h
    generalize SetTable.insertAt es p' (tH P w k, Value.ref b) = es1 at hin hes ⊢
    generalize L.take p' ++ (Value.ref b, k) :: L.drop p' = L1 at pm hlen q3 nd1 hin
    have ld0 : w.params.followText "set-order" = true ∨ t1.led = true := by rw [q5]; exact R.led
    have rest : ∀ t2 : SetTable, Tb t2 (L1.map fun p : Value × List Key => tH P w p.2) → t2.mask = t.mask → (w.params.followText "set-order" = true ∨ t2.led = true) → t2.fill = L.length + 1 →
        wpAny (model P w) A (do
          storeSet a es1 t2
          if (!false && t2.tooFull) = true then do
              setRelay a (SetTable.grown (es.size + 1))
              pure true
            else pure true) Q E { s with toks := s.toks + (k.length + 1) } := by
      intro t2 T2 em2 ld2 fl2
      refine wpAny_bind (wpAny_storeSet_of ho hd ?_ (by rw [hes, sizeLine_eq]; omega))
      have sb : Heap.SameBut a s.heap (s.heap.update a (Obj.putSet es1 t2)) := Heap.SameBut.update ..
      have ho1 := store_at (es' := es1) (t' := t2) ho hd
      have pz := T2.sz
      rw [List.length_map] at pz
      generalize s.heap.update a (Obj.putSet es1 t2) = h1 at sb ho1 ⊢
      have mem1 : ∀ p ∈ L1, (tupK P w).is h1 p.2 p.1 := fun p hp => by
        rcases List.mem_cons.mp (pm.mem_iff.mp hp) with rfl | hp
        · exact (tupK P w).but (v := .ref b) ⟨b, rfl, hx⟩ ho hd sb
        · exact (tupK P w).but (hmem p hp) ho hd sb
      by_cases hf : t2.tooFull = true
      · refine wp_if_pos (by simp [hf]) ?_
        have hfull : (L.length + 1) * 5 ≥ t.mask * 3 := by
          unfold SetTable.tooFull at hf
          rw [decide_eq_true_eq, fl2, em2] at hf
          exact hf
        obtain ⟨M, c1, c2, c3⟩ : ∃ M, SetTable.sizeAbove (SetTable.grown (L.length + 1)) = M + 1 ∧ M6 M ∧ (L.length + 1) * 5 < M * 3 := by
          obtain ⟨z1, z2, z3, z4, z5⟩ := sizes
          rcases m6 with e | e | e | e | e | e
          · have : L.length + 1 = 5 := by omega
            exact ⟨31, by rw [this]; exact z1, .inr (.inl rfl), by omega⟩
          · have : L.length + 1 = 19 := by omega
            exact ⟨127, by rw [this]; exact z2, .inr (.inr (.inl rfl)), by omega⟩
          · have : L.length + 1 = 77 := by omega
            exact ⟨511, by rw [this]; exact z3, .inr (.inr (.inr (.inl rfl))), by omega⟩
          · have : L.length + 1 = 307 := by omega
            exact ⟨2047, by rw [this]; exact z4, .inr (.inr (.inr (.inr (.inl rfl)))), by omega⟩
          · have : L.length + 1 = 1229 := by omega
            exact ⟨8191, by rw [this]; exact z5, .inr (.inr (.inr (.inr (.inr rfl)))), by omega⟩
          · omega
        rw [hsl]
        refine wpAny_bind (wider (s := { s with heap := h1, toks := s.toks + (k.length + 1) }) (M := M) ho1 ⟨hex.1, hex.2.1, hex.2.2⟩ rfl hin T2 (by omega) nd1 mem1 ld2 (by omega) c1 c2 (by omega) fun h2 L2 es2 ep2 t3 sb2 R2 pm2 => ?_)
        exact wpAny_pure (hQ true h2 _ L2 es2 ep2 t3 (sb.trans sb2) R2 (fun z => absurd z hm) (fun _ => pm2.trans pm) tk)
      · refine wp_if_neg (by simp [hf]) ?_
        refine wpAny_pure (hQ true h1 _ L1 es1 (ep + 1) t2 sb ⟨⟨_, ho1, ⟨hex.1, hex.2.1, hex.2.2⟩, rfl⟩, hin, nd1, mem1, T2.ris, ?_, ld2, by omega, T2, by rw [em2]; exact m6, ?_⟩ (fun z => absurd z hm) (fun _ => pm) tk)
        · unfold SetTable.fits SetTable.fill
          rw [T2.dm, Bool.and_eq_true, beq_iff_eq, decide_eq_true_eq]
          show t2.place.size = es1.size ∧ t2.place.size + 0 ≤ t2.mask
          omega
        · unfold SetTable.tooFull at hf
          rw [decide_eq_true_eq, fl2] at hf
          rw [List.length_map]; omega
    by_cases hp1 : t1.plain = true
    · first
        | (refine wpAny_bind ?_; refine wp_if_pos hp1 ?_; refine hashed_tup hx fun c => ?_)
        | refine wp_if_pos hp1 (wpAny_bind (hashed_tup hx fun c => ?_))
      cases c with
      | true =>
        simp only [if_true]
        exact rest t1 q3 q4 ld0 q9
      | false =>
        simp only [Bool.false_eq_true, if_false]
        exact rest _ q3.off q4 ld0 q9
    · first
        | (refine wpAny_bind ?_; refine wp_if_neg hp1 ?_; refine wpAny_pure ?_)
        | refine wp_if_neg hp1 (wpAny_bind (wpAny_pure ?_))
      simp only [if_true]
      exact rest t1 q3 q4 ld0 q9
end
end ZT
namespace Z
variable [PoC]
open PySem PySem.Spec PyProof.Rows PySem.W PySem.SeqAt L2 PySem.Calls
open Evl (Ex fresh_back)
/-! ### sorted(set(..)), len(set(..)) -/
section
variable {prog : Program} {w : World} {A : Around} {E : Value → Shared → Prop} {s : Shared}
theorem sorted_any2 {v : Value} {PP : List PyData → Prop} {R : Value → PyData → Prop} {Q : Value → Shared → Prop}
    (hc : ∀ (E' : Value → Shared → Prop) (Q' : List Value → Shared → Prop), (∀ vs (ds : List PyData) (s1 : Shared), (∀ b o, s.heap.get? b = some o → s1.heap.get? b = some o) → s.heap.objs.size ≤ s1.heap.objs.size → s1.gens = s.gens → s1.os = s.os → PP ds → PySem.W.EachIs R vs ds → PySem.W.EachIs (fun v d => ∃ as, Reads s1.heap v d as) vs ds → Q' vs s1) → wpAny (model prog w) A.in1 (collect v) Q' E' s)
    (hs : ∀ ds, PP ds → sortable ds ∧ ds.length ≤ sizeLine) (hu : A.units + 62 < cLine)
    (h : ∀ (s1 : Shared) (p : Addr) (h' : Heap) (out : List Value) (n : Nat) (ds : List PyData), (∀ b o, s.heap.get? b = some o → s1.heap.get? b = some o) → s.heap.objs.size ≤ p → s1.gens = s.gens → s1.os = s.os → PP ds → (∀ b o, s1.heap.get? b = some o → h'.get? b = some o) → h'.get? p = some (seqObj "list" out.toArray n) → out.length = ds.length → EachIs R out (sortD ds) → Q (.ref p) { s1 with heap := h' }) :
    wpAny (model prog w) A (call (.builtin "sorted") [v]) Q E s := by
  refine call_function_entry_kw kind_sorted plain_sorted entry_sorted (args_sorted1 _) ?_
  unfold Builtin.«sorted»
  refine wpAny_bind (m := checkCount "sorted" 1 1 _) (wpAny_pure ?_)
  refine wpAny_bind (hc _ _ fun vs ds s1 k1 z1 g1 o1 pp e er => ?_)
  obtain ⟨hs1, hL⟩ := hs ds pp
  have hlen : vs.length = ds.length := e.length
  obtain ⟨h1, g, d, tk, os⟩ := s1
  refine wpAny_bind (wpAny_newList ?_ (by rw [hlen]; exact hL))
  have ho : (h1.push (seqObj "list" vs.toArray 0)).get? h1.objs.size = some (seqObj "list" vs.toArray 0) := Heap.get?_push_size _ rfl
  have er2 : EachIs (fun v d => ∃ as, Reads (sortingHeap (h1.push (seqObj "list" vs.toArray 0)) h1.objs.size vs) v d as) vs ds :=
    er.mono fun _ _ ⟨as, r⟩ => ⟨as, PyProof.Rows.Reads.keeps (fun b o q => sortingHeap_old (Nat.ne_of_lt (Heap.lt_size q)) (Heap.get?_push_of_some _ q)) r⟩
  show wpAny _ _ _ _ _ (Shared.mk (h1.push (seqObj "list" vs.toArray 0)) g d tk os)
  refine wpAny_bind (wpAny_holding (wpAny_call_entry_kw slot_list_sort ⟨_, ho, rfl⟩ entry_list_sort ?body (args_list_sort _)))
  case body =>
    show wpAny (model prog w) A.in1.in1 (Builtin.«list.sort» ⟨[.ref h1.objs.size], []⟩) _ _ _
    refine list_sort_vals (κ := dataKind (sortingHeap (h1.push (seqObj "list" vs.toArray 0)) h1.objs.size vs) ds) (s := Shared.mk (h1.push (seqObj "list" vs.toArray 0)) g d tk os) ho
      (SortsAt.any (s := Shared.mk (sortingHeap (h1.push (seqObj "list" vs.toArray 0)) h1.objs.size vs) g d tk os) er2 hs1 (by
        have : A.in1.in1.units = A.units + 2 := rfl
        omega)) (by rw [hlen]; exact hL) ?_
    obtain ⟨ep, he'⟩ := PyProof.Rows.sortedHeap_at (vs := vs) (out := (sortVals (dataKind (sortingHeap (h1.push (seqObj "list" vs.toArray 0)) h1.objs.size vs) ds) false vs vs).toArray) ho
    refine ⟨_, rfl, wpAny_pure ⟨_, rfl, h (Shared.mk h1 g d tk os) h1.objs.size _ _ ep ds k1 z1 g1 o1 pp (fun b o q => ?_) he' (by rw [sortVals_length false rfl]; exact hlen) ?_⟩⟩
    · have hb : b < h1.objs.size := Heap.lt_size q
      rw [PyProof.Rows.sortedHeap_old (Nat.ne_of_lt hb) (by rw [size_push']; exact Nat.lt_succ_of_lt hb)]
      exact Heap.get?_push_of_some _ q
    · have em : ds.map id = ds := List.map_id _
      have q := sortVals_data (enc := id) (h' := sortingHeap (h1.push (seqObj "list" vs.toArray 0)) h1.objs.size vs) false e er2 (by rw [em]; exact hs1.1)
      rw [em] at q
      exact q
end
/-- what a set may be made of -/
def tupD (k : List Key) : PyData := .tuple (k.map kD)
theorem kD_inj : ∀ {a b : Key}, kD a = kD b → a = b
  | .inl _, .inl _, h => by cases h; rfl
  | .inr _, .inr _, h => by cases h; rfl
  | .inl _, .inr _, h => by cases h
  | .inr _, .inl _, h => by cases h
theorem tupD_inj {a b : List Key} (h : tupD a = tupD b) : a = b := by
  have h2 : a.map kD = b.map kD := by unfold tupD at h; injection h
  clear h
  induction a generalizing b with
  | nil => cases b with
    | nil => rfl
    | cons _ _ => cases h2
  | cons x r ih => cases b with
    | nil => cases h2
    | cons y t =>
      rw [List.map_cons, List.map_cons] at h2
      injection h2 with h3 h4
      rw [kD_inj h3, ih h4]
inductive SetD : List PyData → Prop
  | keys (ks lim : List Key) (h : lim.length + 1 < 4000) (hs : ∀ k ∈ ks, k ∈ lim) : SetD (ks.map kD)
  | tups (ks lim : List (List Key)) (h : lim.length + 1 < 4000) (hs : ∀ k ∈ ks, k ∈ lim) : SetD (ks.map tupD)
/-- what the set has -/
def Uniq (ds ds' : List PyData) : Prop := ds'.Nodup ∧ (∀ d, d ∈ ds' ↔ d ∈ ds) ∧ ds'.length < 4000
section
variable {X : Cx}
/-- set(xs) and then id(..) -/
def CallSet (X : Cx) (id : String) (r : List V → Hp → VK → Prop) : Prop := ∀ (pins : List (Addr × Obj)) (s : Shared) (σ : L2.St) (H : Hp) (xs : List V) (us : List Value) (Q : VK), Inv X pins σ H s → Vals xs us → r xs H Q →
  wpAny (model X.prog X.w) X.A (call (.type "set") us) (fun v s' => wpAny (model X.prog X.w) X.A (call (.builtin id) [v]) (EP X pins σ Q) X.xe s') X.xe s
theorem pe_callSet {id : String} {r : List V → Hp → VK → Prop} {t : TA} {x : Str} {e : Expr} {es : List Expr} {p p2 pos pos2 : Pos} (hc : CallSet X id r) (hg : Gl X x) (hm : X.mg x = none) (hv : bootBuiltins x = some (.builtin id)) (hg2 : Gl X "set") (hm2 : X.mg "set" = none) (ha : PA X (e :: es) t) (hn : x ≠ "__name__" := by decide) (hdb : (x == ("__debug__" : Str)) = false := by decide)
    (he : starEach (e :: es) X.env = (false, eval e X.env) :: starEach es X.env := by rfl) (hpl : (backTo pos2 (starEach es X.env)).any (·.1) = false := by rfl) : PE X (.Call (.Name x p) [.Call (.Name "set" p2) (e :: es) [] pos2] [] pos) (tCB r t) := by
  refine ⟨fun pins s σ H Q I h => ?_⟩
  refine wpAny_Call_Name_kw (ld_blt I hg hm hv ?_ hn hdb)
  refine PyProof.Rows.callWith_builtin1 (PyProof.Rows.args_cons ?_ rfl) rfl rfl
  refine wpAny_Call_Name_kw (ld_blt I hg2 hm2 PyProof.Rows.boot_set ?_)
  refine PyProof.Rows.callWith_type1 (thn (ha.run pos2 pins s σ H _ I h) fun us s1 ⟨vs, H1, I1, r1, q1⟩ => ?_) he hpl
  exact thn (hc pins s1 σ H1 vs us Q I1 r1 q1) fun v s2 q => PyProof.Rows.args_nil q
theorem zip_enc {κ : Type} (enc : κ → PyData) {K : PySem.W.Frag} {H : Hp} : ∀ {vs : List V} {us : List Value} {ks : List κ}, Vals vs us → DpAll K H vs (ks.map enc) → ∀ p ∈ us.zip ks, ∃ x, RelV x p.1 ∧ (x, enc p.2) ∈ vs.zip (ks.map enc) ∧ Dp K H x (enc p.2)
  | _, _, [], .nil, .nil, p, h => by cases h
  | _, _, k :: ks, .cons r rs, .cons d ds, p, h => by
    rw [List.zip_cons_cons, List.mem_cons] at h
    rcases h with rfl | h
    · exact ⟨_, r, List.mem_cons_self .., d⟩
    · obtain ⟨x, h1, h2, h3⟩ := zip_enc enc rs ds p h
      exact ⟨x, h1, List.mem_cons_of_mem _ h2, h3⟩
theorem key_is {K : PySem.W.Frag} {H : Hp} {x : V} {u : Value} {k : Key} (r : RelV x u) (d : Dp K H x (kD k)) : keyIs k u = true := by
  cases k with
  | inl i =>
    have := dp_int d
    subst this
    obtain ⟨t, rfl⟩ := r
    exact keyIs_int i t
  | inr i =>
    have := dp_str d
    subst this
    obtain ⟨t, rfl⟩ := r
    exact keyIs_str i t
theorem keys_are {K : PySem.W.Frag} {H : Hp} {P : Program} {w : World} : ∀ {vs : List V} {us : List Value} {ks : List Key}, Vals vs us → DpAll K H vs (ks.map kD) → ItemsAre (mixKind P w) ks us
  | _, _, [], .nil, .nil => .nil
  | _, _, k :: ks, .cons r rs, .cons d ds => .cons (key_is (K := K) r d) (keys_are (K := K) rs ds)
theorem tup_is {pins : List (Addr × Obj)} {σ : L2.St} {H : Hp} {s : Shared} (I : Inv X pins σ H s) {x : V} {u : Value} {k : List Key} (r : RelV x u) (d : Dp X.K H x (tupD k)) : (ZT.tupK X.prog X.w).is s.heap k u := by
  obtain ⟨a, vs, rfl, h1, h2⟩ := dp_tup d
  cases r
  obtain ⟨its, rv, ⟨o, ho, hc, n, hd⟩, _⟩ := I.tuple (st0 h1)
  exact ⟨a, rfl, o, its.toArray, n, ho, hc, hd, by simpa using keys_are rv h2⟩
/-- a set as it stands behind the call -/
def SetAtZ (X : Cx) (vs : List V) (ds : List PyData) (h' : Heap) (S : Addr) : Prop := ∃ (κ : Type) (D : ZT.SKind X.prog X.w κ) (enc : κ → PyData) (L : List (Value × κ)) (es : Array (Int × Value)) (ep : Nat) (t : SetTable),
  ZT.SR D h' S L es ep t ∧ Uniq ds (L.map fun p => enc p.2) ∧ ∀ p ∈ L, ∃ x, RelV x p.1 ∧ (x, enc p.2) ∈ vs.zip ds
theorem set_go (hc : X.calm = true) (hu : X.A.units + 64 < cLine) {pins : List (Addr × Obj)} {σ : L2.St} {H : Hp} {s : Shared} {a : Addr} {vs : List V} {ds : List PyData} (I : Inv X pins σ H s) (hs : SqL X.K H a vs ∨ SqT X.K H a vs) (hd : DpAll X.K H vs ds) (sd : SetD ds) {Q : Value → Shared → Prop}
    (k : ∀ (h' : Heap) (tk : Nat), (∀ b o, s.heap.get? b = some o → h'.get? b = some o) → SetAtZ X vs ds h' s.heap.objs.size → Q (.ref s.heap.objs.size) { s with heap := h', toks := tk }) :
    wpAny (model X.prog X.w) X.A (call (.type "set") [.ref a]) Q X.xe s := by
  obtain ⟨its, rv, hl⟩ : ∃ its : List Value, Vals vs its ∧ (s.heap.IsList a its.toArray ∨ s.heap.IsTuple a its.toArray) := by
    rcases hs with h | h
    · obtain ⟨its, rv, pl, _⟩ := I.list h
      exact ⟨its, rv, .inl pl.isList⟩
    · obtain ⟨its, rv, pl, _⟩ := I.tuple h
      exact ⟨its, rv, .inr pl⟩
  have l1 := rv.length
  have l2 := dpa_len hd
  have main : ∀ (κ : Type) (D : ZT.SKind X.prog X.w κ) (enc : κ → PyData) (ks lim : List κ), (∀ a b, enc a = enc b → a = b) → ZT.Adds D → D.tab (.fresh 0 0 (!X.w.params.followText "set-order")) [] → ds = ks.map enc → lim.length + 1 < 4000 → (∀ k ∈ ks, k ∈ lim) →
      (∀ x u k, RelV x u → Dp X.K H x (enc k) → D.is s.heap k u) → wpAny (model X.prog X.w) X.A (call (.type "set") [.ref a]) Q X.xe s := by
    intro κ D enc ks lim inj hadd hnew e hlim hkl his
    subst e
    rw [List.length_map] at l2
    have hz := zip_enc enc rv hd
    have m1 : (its.zip ks).map (·.1) = its := List.map_fst_zip (by omega)
    have m2 : (its.zip ks).map (·.2) = ks := List.map_snd_zip (by omega)
    refine ZT.set_of hadd hnew (its.zip ks) (I.ok.hd hc) hl (by rw [m1]) lim hlim (fun p hp => hkl _ ?_) (fun p hp => ?_) (by omega) fun h' tk L es ep t R g kk => ?_
    · rw [← m2]; exact List.mem_map.mpr ⟨p, hp, rfl⟩
    · obtain ⟨x, q1, q2, q3⟩ := hz p hp
      exact his x _ _ q1 q3
    · have sub : ∀ p ∈ L, p ∈ its.zip ks := fun p hp => List.mem_of_mem_take (g.sub p hp)
      refine k h' tk kk ⟨κ, D, enc, L, es, ep, t, R, ⟨?_, fun d => ⟨fun hm => ?_, fun hm => ?_⟩, by rw [List.length_map]; exact R.few⟩, fun p hp => ?_⟩
      · have := R.nd
        rw [List.Nodup, List.pairwise_map] at this ⊢
        exact this.imp fun h e => h (inj _ _ e)
      · obtain ⟨p, hp, rfl⟩ := List.mem_map.mp hm
        refine List.mem_map.mpr ⟨p.2, ?_, rfl⟩
        rw [← m2]; exact List.mem_map.mpr ⟨p, sub p hp, rfl⟩
      · obtain ⟨k0, hk0, rfl⟩ := List.mem_map.mp hm
        rw [← m2] at hk0
        obtain ⟨p, hp, rfl⟩ := List.mem_map.mp hk0
        obtain ⟨q, hq, e⟩ := List.mem_map.mp (g.all p (by rw [List.take_length]; exact hp))
        exact List.mem_map.mpr ⟨q, hq, by rw [e]⟩
      · obtain ⟨x, q1, q2, q3⟩ := hz p (sub p hp)
        exact ⟨x, q1, q2⟩
  cases sd with
  | keys ks lim h1 h2 => exact main Key (ZT.keyK X.prog X.w) kD ks lim (fun a b => kD_inj) ZT.adds_key trivial rfl h1 h2 fun x u k r d => key_is r d
  | tups ks lim h1 h2 =>
    exact main (List Key) (ZT.tupK X.prog X.w) tupD ks lim (fun a b => tupD_inj) ZT.adds_tup ⟨⟨List.Pairwise.nil, rfl, rfl, (ZT.M6.mk (.inl rfl)), fun x hx => (by cases hx), fun i h j hi => (by simp at hi)⟩, .inl rfl, (by show 0 * 5 < 7 * 3; decide)⟩ rfl h1 h2 fun x u k r d => tup_is I r d
def rLenSet (K : PySem.W.Frag) : List V → Hp → VK → Prop := fun xs H Q => ∃ a vs ds, xs = [.ref a] ∧ (SqL K H a vs ∨ SqT K H a vs) ∧ DpAll K H vs ds ∧ SetD ds ∧ ∀ ds', Uniq ds ds' → Q (.int ds'.length) H
theorem call_lenSet (hc : X.calm = true) (hu : X.A.units + 64 < cLine) : CallSet X "len" (rLenSet X.K) := by
  intro pins s σ H xs us Q I r h
  obtain ⟨a, vs, ds, rfl, h1, h2, h3, q⟩ := h
  rw [Vals.ref1 r]
  refine set_go hc hu I h1 h2 h3 fun h' tk kk sz => ?_
  obtain ⟨κ, D, enc, L, es, ep, t, R, hU, _⟩ := sz
  have I1 : Inv X pins σ H { s with heap := h', toks := tk } := I.kept kk
  refine ZT.len_set (s := { s with heap := h', toks := tk }) R fun tk1 tk2 => ⟨.int L.length, H, I1.tok _, ⟨_, rfl⟩, ?_⟩
  have := q _ hU
  rwa [List.length_map] at this
def rSortSet (K : PySem.W.Frag) : List V → Hp → VK → Prop := fun xs H Q => ∃ a vs ds, xs = [.ref a] ∧ (SqL K H a vs ∨ SqT K H a vs) ∧ DpAll K H vs ds ∧ SetD ds ∧ (∀ ds', Uniq ds ds' → sortable ds') ∧
  ∀ ds' p ws, Uniq ds ds' → H p = none → (∀ G, DpAll K G vs ds → DpAll K G ws (sortD ds')) → Q (.ref p) (upd H p (.lst ws))
theorem each_map {α : Type} {R : Value → PyData → Prop} (f : α → Value) (g : α → PyData) : ∀ (L : List α), (∀ p ∈ L, R (f p) (g p)) → PySem.W.EachIs R (L.map f) (L.map g)
  | [], _ => .nil
  | p :: L, h => .cons (h p (List.mem_cons_self ..)) (each_map f g L fun q hq => h q (List.mem_cons_of_mem _ hq))
theorem Uniq.perm {ds ds1 ds2 : List PyData} (h : Uniq ds ds1) (p : ds2.Perm ds1) : Uniq ds ds2 := ⟨p.nodup_iff.mpr h.1, fun d => p.mem_iff.trans (h.2.1 d), by rw [p.length_eq]; exact h.2.2⟩
theorem call_sortSet (hc : X.calm = true) (hu : X.A.units + 64 < cLine) : CallSet X "sorted" (rSortSet X.K) := by
  intro pins s σ H xs us Q I r h
  obtain ⟨a, vs, ds, rfl, h1, h2, h3, hs, q⟩ := h
  rw [Vals.ref1 r]
  refine set_go hc hu I h1 h2 h3 fun h' tk kk sz => ?_
  obtain ⟨κ, D, enc, L, es, ep, t, R, hU, hx⟩ := sz
  have I1 : Inv X pins σ H { s with heap := h', toks := tk } := I.kept kk
  refine sorted_any2 (s := { s with heap := h', toks := tk }) (PP := Uniq ds) (R := fun u d => ∃ x, RelV x u ∧ (x, d) ∈ vs.zip ds) (fun E' Q' hq => ?_) (fun ds' u => ⟨hs ds' u, by have := u.2.2; rw [sizeLine_eq]; omega⟩) (by omega) fun s1 p h2' out n ds' k1 hp g1 o1 pp k2 hat hlen ho => ?_
  · refine ZT.members (s := { s with heap := h', toks := tk }) R (I.ok.hd hc) fun s1 L' k1 z1 g1 o1 pm => ?_
    have pm2 : (L'.map fun p => enc p.2).Perm (L.map fun p => enc p.2) := pm.map _
    have sub : ∀ p ∈ L', p ∈ L := fun p hp => pm.mem_iff.mp hp
    refine hq _ (L'.map fun p => enc p.2) s1 k1 z1 g1 o1 (hU.perm pm2) (each_map _ _ L' fun p hp => hx p (sub p hp)) (each_map _ _ L' fun p hp => ?_)
    obtain ⟨x, q1, q2⟩ := hx p (sub p hp)
    have I2 : Inv X pins σ H { s with heap := s1.heap, toks := tk } := I.kept fun b o e => k1 b o (kk b o e)
    exact Dp.reads I2 _ _ _ (dp0 (dpa_zip h2 _ _ q2)) q1
  · obtain ⟨ws, w1, w2⟩ := each_back (K := X.K) ho
    have hn : H p = none := I1.hok.fresh hp
    have kall : ∀ b o, h'.get? b = some o → h2'.get? b = some o := fun b o e => k2 b o (k1 b o e)
    have hlw : ws.length ≤ sizeLine := by
      have := pp.2.2
      rw [w1.length, hlen, sizeLine_eq]; omega
    have J : Inv X pins σ (upd H p (.lst ws)) { s1 with heap := h2' } := by
      obtain ⟨hh, gg, dd, tt, oo⟩ := s1
      have eg : gg = s.gens := g1
      have eo : oo = s.os := o1
      subst eg eo
      have hp' : h'.objs.size ≤ p := hp
      have J0 := I1.call (h' := h2') (ch := []) (d' := dd) (t' := tt) (g' := s.gens) (H' := upd H p (.lst ws)) (Un.laid (h := h') kall hp' hn) (I1.hok.laid (o := .lst ws) kall hp' ⟨hlw, out, n, w1, hat⟩) I1.bare (fun _ z => nomatch z)
      exact J0
    exact ⟨.ref p, _, J, rfl, q ds' p ws pp hn fun G h => w2 G (dpa_zip h)⟩
end
section
variable {K : PySem.W.Frag}
def fLenSet : List PyData → W PyData
  | [.list ds] => ⟨fun Q => SetD ds ∧ ∀ ds', Uniq ds ds' → Q (.int ds'.length), fun h q => ⟨q.1, fun ds' u => h _ (q.2 ds' u)⟩⟩
  | [.tuple ds] => ⟨fun Q => SetD ds ∧ ∀ ds', Uniq ds ds' → Q (.int ds'.length), fun h q => ⟨q.1, fun ds' u => h _ (q.2 ds' u)⟩⟩
  | _ => W.fail
theorem cj_lenSet : CJ K (rLenSet K) fLenSet := by
  intro G H vs ds ex h Q q
  match ds, h, q with
  | [.list ds], h, q =>
    obtain ⟨v, rfl, hv⟩ := dpa_one h
    obtain ⟨p, vs, rfl, h1, h2⟩ := dp_lst hv
    exact ⟨p, vs, ds, rfl, .inl (ex_l ex h1), dpa_ex ex h2, q.1, fun ds' u => q.2 ds' u _ G H .same (.int _)⟩
  | [.tuple ds], h, q =>
    obtain ⟨v, rfl, hv⟩ := dpa_one h
    obtain ⟨p, vs, rfl, h1, h2⟩ := dp_tup hv
    exact ⟨p, vs, ds, rfl, .inr (ex_t ex h1), dpa_ex ex h2, q.1, fun ds' u => q.2 ds' u _ G H .same (.int _)⟩
def fSortSet : List PyData → W (List PyData)
  | [.list ds] => ⟨fun Q => (SetD ds ∧ ∀ ds', Uniq ds ds' → sortable ds') ∧ ∀ ds', Uniq ds ds' → Q (sortD ds'), fun h q => ⟨q.1, fun ds' u => h _ (q.2 ds' u)⟩⟩
  | [.tuple ds] => ⟨fun Q => (SetD ds ∧ ∀ ds', Uniq ds ds' → sortable ds') ∧ ∀ ds', Uniq ds ds' → Q (sortD ds'), fun h q => ⟨q.1, fun ds' u => h _ (q.2 ds' u)⟩⟩
  | _ => W.fail
theorem cjl_sortSet : CJL K (rSortSet K) fSortSet := by
  intro G H vs ds ex h Q q
  match ds, h, q with
  | [.list ds], h, q =>
    obtain ⟨v, rfl, hv⟩ := dpa_one h
    obtain ⟨p, vs, rfl, h1, h2⟩ := dp_lst hv
    exact ⟨p, vs, ds, rfl, .inl (ex_l ex h1), dpa_ex ex h2, q.1.1, q.1.2, fun ds' p ws u hp hd => q.2 ds' u p ws hp (hd G h2)⟩
  | [.tuple ds], h, q =>
    obtain ⟨v, rfl, hv⟩ := dpa_one h
    obtain ⟨p, vs, rfl, h1, h2⟩ := dp_tup hv
    exact ⟨p, vs, ds, rfl, .inr (ex_t ex h1), dpa_ex ex h2, q.1.1, q.1.2, fun ds' p ws u hp hd => q.2 ds' u p ws hp (hd G h2)⟩
end
end Z
namespace Z
open PySem
/-! ### plain: what mirrors come to -/
theorem W.to {a : Type} {m : W a} {P Q : a → Prop} (h : m.run P) (k : ∀ x, P x → Q x) : m.run Q := m.mono k h
@[simp] theorem gt_z (a : Sl) (l : Env) : gt (a :: l) 0 = a := rfl
@[simp] theorem gt_s (a : Sl) (l : Env) (i : Nat) : gt (a :: l) (i + 1) = gt l i := rfl
@[simp] theorem wipeE_n (e : Env) : wipeE e [] = e := rfl
@[simp] theorem wipeE_c (e : Env) (v : Nat) (vs : List Nat) : wipeE e (v :: vs) = (wipeE e vs).set v .any := rfl
@[simp] theorem killE_n (e : Env) : killE [] e = e := rfl
@[simp] theorem killE_c (e : Env) (v : Nat) (vs : List Nat) : killE (v :: vs) e = killE vs (e.set v .any) := rfl
def frz1 (s : Sl) (e : Env) (i : Nat) : Env := match s with
  | .lst ds => e.set i (.imm (.list ds))
  | .dK kvs => e.set i (.rK kvs)
  | .dT kvs => e.set i (.rT kvs)
  | _ => e
@[simp] theorem frz1_dK (ds : List (L2.Key × PyData)) (e : Env) (i : Nat) : frz1 (.dK ds) e i = e.set i (.rK ds) := rfl
@[simp] theorem frz1_dT (ds : List (List L2.Key × PyData)) (e : Env) (i : Nat) : frz1 (.dT ds) e i = e.set i (.rT ds) := rfl
@[simp] theorem frz1_lst (ds : List PyData) (e : Env) (i : Nat) : frz1 (.lst ds) e i = e.set i (.imm (.list ds)) := rfl
@[simp] theorem frz_n (e : Env) : frz [] e = e := rfl
@[simp] theorem frz_c (e : Env) (v : Nat) (vs : List Nat) : frz (v :: vs) e = frz vs (frz1 (gt e v) e v) := rfl
@[simp] theorem lendS_lst (ds : List PyData) : lendS (.lst ds) = .imm (.list ds) := rfl
@[simp] theorem lendS_imm (d : PyData) : lendS (.imm d) = .imm d := rfl
@[simp] theorem lendS_any : lendS .any = .any := rfl
@[simp] theorem lendS_opq (k : Nat) : lendS (.opq k) = .opq k := rfl
@[simp] theorem lendS_dK (k : List (L2.Key × PyData)) : lendS (.dK k) = .dK k := rfl
@[simp] theorem lendS_rK (k : List (L2.Key × PyData)) : lendS (.rK k) = .rK k := rfl
@[simp] theorem lendS_rT (k : List (List L2.Key × PyData)) : lendS (.rT k) = .rT k := rfl
def onImm (s : Sl) (Q : PyData → Prop) : Prop := match s with
  | .imm d => Q d
  | .adr (.tz ds) => Q (.tuple ds)
  | _ => False
@[simp] theorem onImm_tz (ds : List PyData) (Q : PyData → Prop) : onImm (.adr (.tz ds)) Q = Q (.tuple ds) := rfl
@[simp] theorem lendS_adr (a : Ad) : lendS (.adr a) = .adr a := rfl
@[simp] theorem onImm_i (d : PyData) (Q : PyData → Prop) : onImm (.imm d) Q = Q d := rfl
def onOpq (s : Sl) (Q : Nat → Prop) : Prop := match s with
  | .opq d => Q d
  | _ => False
@[simp] theorem onOpq_i (d : Nat) (Q : Nat → Prop) : onOpq (.opq d) Q = Q d := rfl
@[simp] theorem run_map {a b : Type} (f : a → b) (m : W a) (Q : b → Prop) : (f <$> m).run Q = m.run fun x => Q (f x) := rfl
@[simp] theorem asL_lst (ds : List PyData) : asL (.lst ds) = pure ds := rfl
@[simp] theorem asDK_dK (ds : List (L2.Key × PyData)) : asDK (.dK ds) = pure ds := rfl
@[simp] theorem asDR_dK (ds : List (L2.Key × PyData)) : asDR (.dK ds) = pure ds := rfl
@[simp] theorem asDR_rK (ds : List (L2.Key × PyData)) : asDR (.rK ds) = pure ds := rfl
@[simp] theorem asB_b (b : Bool) : asB (.bool b) = pure b := rfl
@[simp] theorem asIm_tz (ds : List PyData) : asIm (.ad (.tz ds)) = pure (.tuple ds) := rfl
@[simp] theorem asIm_im (d : PyData) : asIm (.im d) = pure d := rfl
@[simp] theorem asIm_fr (d : List PyData) : asIm (.fr d) = pure (.list d) := rfl
@[simp] theorem asFr_fr (d : List PyData) : asFr (.fr d) = pure d := rfl
@[simp] theorem asSeq_l (d : List PyData) : asSeq (.list d) = pure d := rfl
@[simp] theorem asSeq_t (d : List PyData) : asSeq (.tuple d) = pure d := rfl
@[simp] theorem seqD_l (d : List PyData) : seqD (.list d) = pure d := rfl
@[simp] theorem seqD_t (d : List PyData) : seqD (.tuple d) = pure d := rfl
@[simp] theorem seqD_s (d : Str) : seqD (.str d) = pure (signsD d) := rfl
@[simp] theorem keyW_s (x : Str) : keyW (.str x) = pure (.inr x) := rfl
@[simp] theorem keyW_i (x : Int) : keyW (.int x) = pure (.inl x) := rfl
@[simp] theorem kD_s (x : Str) : kD (.inr x) = .str x := rfl
@[simp] theorem kD_i (x : Int) : kD (.inl x) = .int x := rfl
section
variable {Q : PyData → Prop} {QL : List PyData → Prop} {QB : Bool → Prop} {QE : Env → Prop} {e : Env} {m ma mb mc : Env → W PyData} {ml mr : Env → W (List PyData)} {mt mu : Env → W Bool} {i j n : Nat}
@[simp] theorem r_mVar : (mVar i e).run Q = onImm (gt e i) Q := by
  unfold mVar onImm
  cases gt e i with
  | adr a => cases a <;> rfl
  | _ => rfl
@[simp] theorem r_mC (d : PyData) : (mC d e).run Q = Q d := rfl
@[simp] theorem r_m1 (f : PyData → W PyData) : (m1 f ma e).run Q = (ma e).run fun a => (f a).run Q := rfl
@[simp] theorem r_m2 (f : PyData → PyData → W PyData) : (m2 f ma mb e).run Q = (ma e).run fun a => (mb e).run fun b => (f a b).run Q := rfl
@[simp] theorem r_m2L (f : PyData → PyData → W (List PyData)) : (m2L f ma mb e).run QL = (ma e).run fun a => (mb e).run fun b => (f a b).run QL := rfl
@[simp] theorem r_mFrz : (mFrz ml e).run Q = (ml e).run fun ds => Q (.list ds) := rfl
@[simp] theorem r_mTup : (mTup mr e).run Q = (mr e).run fun r => r.length ≤ sizeLine ∧ Q (.tuple r) := rfl
@[simp] theorem r_mLst : (mLst mr e).run QL = (mr e).run fun r => r.length ≤ sizeLine ∧ QL r := rfl
@[simp] theorem r_mNil : (mNil e).run QL = QL [] := rfl
@[simp] theorem r_mCons : (mCons ma mr e).run QL = (ma e).run fun a => (mr e).run fun r => QL (a :: r) := rfl
@[simp] theorem r_mBool : (mBool m e).run QB = (m e).run fun d => (asB d).run QB := rfl
@[simp] theorem r_mTruth : (mTruth m e).run QB = (m e).run fun d => (truthD d).run QB := rfl
theorem r_if {a : Type} (b : Bool) (x y : W a) (P : a → Prop) : (if b = true then x else y).run P = if b = true then x.run P else y.run P := by cases b <;> rfl
@[simp] theorem r_mAnd : (mAnd mt mu e).run QB = (mt e).run fun b => if b = true then (mu e).run QB else QB false := by
  show (mt e).run _ = _
  congr 1; funext b; cases b <;> rfl
@[simp] theorem r_mOr : (mOr mt mu e).run QB = (mt e).run fun b => if b = true then QB true else (mu e).run QB := by
  show (mt e).run _ = _
  congr 1; funext b; cases b <;> rfl
@[simp] theorem r_mNot : (mNot mt e).run QB = (mt e).run fun b => QB (!b) := rfl
@[simp] theorem r_mAndV : (mAndV ma mb e).run Q = (ma e).run fun d => (asB d).run fun b => if b = true then (mb e).run Q else Q (.bool false) := by
  show (ma e).run _ = _
  congr 1; funext d
  show (asB d).run _ = _
  congr 1; funext b; cases b <;> rfl
@[simp] theorem r_mOrV : (mOrV ma mb e).run Q = (ma e).run fun d => (asB d).run fun b => if b = true then Q (.bool true) else (mb e).run Q := by
  show (ma e).run _ = _
  congr 1; funext d
  show (asB d).run _ = _
  congr 1; funext b; cases b <;> rfl
@[simp] theorem r_mNotV : (mNotV ma e).run Q = (ma e).run fun d => (asB d).run fun b => Q (.bool (!b)) := rfl
@[simp] theorem r_mIf : (mIf mt ma mb e).run Q = (mt e).run fun b => if b = true then (ma e).run Q else (mb e).run Q := by
  show (mt e).run _ = _
  congr 1; funext b; cases b <;> rfl
@[simp] theorem r_mChain (f g : PyData → PyData → W PyData) : (mChain f g ma mb mc e).run Q = (ma e).run fun a => (mb e).run fun b => (f a b).run fun d => (asB d).run fun k => if k = true then (mc e).run fun c => (g b c).run Q else Q (.bool false) := by
  show (ma e).run _ = _
  congr 1; funext a
  show (mb e).run _ = _
  congr 1; funext b
  show (f a b).run _ = _
  congr 1; funext d
  show (asB d).run _ = _
  congr 1; funext k; cases k <;> rfl
@[simp] theorem r_mCB (f : List PyData → W PyData) : (mCB f mr e).run Q = (mr e).run fun r => (f r).run Q := rfl
@[simp] theorem r_mCBL (f : List PyData → W (List PyData)) : (mCBL f mr e).run QL = (mr e).run fun r => (f r).run QL := rfl
@[simp] theorem r_mLend : (mLend m e).run Q = (m (e.map lendS)).run fun d => lfree d = true ∧ Q d := rfl
@[simp] theorem r_mLendL : (mLendL ml e).run QL = (ml (e.map lendS)).run fun d => lfreeAll d = true ∧ QL d := rfl
@[simp] theorem r_mLendT : (mLendT mt e).run QB = (mt (e.map lendS)).run QB := rfl
@[simp] theorem r_mIsi (c : Cl) : (mIsi c m e).run Q = (m e).run fun d => Q (.bool (isiD c d)) := rfl
@[simp] theorem r_mSeqI : (mSeqI m e).run QL = (m e).run fun d => (seqD d).run QL := rfl
@[simp] theorem r_mRng (f : List PyData → W (List PyData)) : (mRng f mr e).run QL = (mr e).run fun r => (f r).run QL := rfl
@[simp] theorem r_mSortDK : (mSortDK j e).run QL = (asDR (gt e j)).run fun kvs => (sortable (kvs.map fun p => kD p.1) ∧ kvs.length ≤ sizeLine) ∧ QL (sortD (kvs.map fun p => kD p.1)) := rfl
@[simp] theorem r_mSl (ml mh : Env → W (Option Int)) : (mSl m ml mh e).run Q = (m e).run fun a => (ml e).run fun l => (mh e).run fun h => (fSl a l h).run Q := rfl
@[simp] theorem r_mNoPart (P : Option Int → Prop) : (mNoPart e).run P = P none := rfl
def onInt (d : PyData) (P : Int → Prop) : Prop := match d with
  | .int i => P i
  | _ => False
@[simp] theorem onInt_i (z : Int) (P : Int → Prop) : onInt (.int z) P = P z := rfl
@[simp] theorem r_mPart (P : Option Int → Prop) : (mPart m e).run P = (m e).run fun d => onInt d fun z => P (some z) := by
  show (m e).run _ = _
  congr 1; funext d; cases d <;> rfl
@[simp] theorem r_mDIn (neg : Bool) : (mDIn neg j m e).run Q = (asDR (gt e j)).run fun kvs => (m e).run fun d => (keyW d).run fun k => Q (.bool (if neg then !(lookP kvs k).isSome else (lookP kvs k).isSome)) := rfl
@[simp] theorem r_mDGet : (mDGet j m e).run Q = (asDR (gt e j)).run fun kvs => (m e).run fun d => (keyW d).run fun k => (asSome (lookP kvs k)).run Q := rfl
@[simp] theorem r_mDGet2 : (mDGet2 j m ma e).run Q = (asDR (gt e j)).run fun kvs => (m e).run fun d => (keyW d).run fun k => (ma e).run fun x => Q ((lookP kvs k).getD x) := rfl
/-! arguments, calls -/
@[simp] theorem r_aNil (P : List Sl → Prop) : (aNil e).run P = P [] := rfl
@[simp] theorem r_aCons (mr : Env → W (List Sl)) (P : List Sl → Prop) : (aCons ma mr e).run P = (ma e).run fun a => (mr e).run fun r => P (.imm a :: r) := rfl
@[simp] theorem r_aOpq (mr : Env → W (List Sl)) (P : List Sl → Prop) : (aOpq i mr e).run P = onOpq (gt e i) fun k => (mr e).run fun r => P (.opq k :: r) := by
  unfold aOpq onOpq
  cases gt e i <;> rfl
@[simp] theorem r_mCall (F : List Sl → W Rv) (mr : Env → W (List Sl)) : (mCall n F mr e).run Q = (mr e).run fun r => r.length = n ∧ (F r).run fun v => (asIm v).run Q := rfl
@[simp] theorem r_mCallL (F : List Sl → W Rv) (mr : Env → W (List Sl)) : (mCallL n F mr e).run QL = (mr e).run fun r => r.length = n ∧ (F r).run fun v => (asFr v).run QL := rfl
/-! targets -/
@[simp] theorem r_nName (d : PyData) : (nName i d e).run QE = QE (e.set i (.imm d)) := rfl
@[simp] theorem r_nNil : (nNil [] e).run QE = QE e := rfl
@[simp] theorem r_nCons (mg : PyData → Env → W Env) (r : List PyData → Env → W Env) (d : PyData) (t : List PyData) : (nCons mg r (d :: t) e).run QE = (mg d e).run fun e1 => (r t e1).run QE := rfl
@[simp] theorem r_nTup (r : List PyData → Env → W Env) (ds : List PyData) : (nTup n r (.tuple ds) e).run QE = (ds.length = n ∧ (r ds e).run QE) := rfl
@[simp] theorem r_mYes : (mYes e).run QB = QB true := rfl
end
section
variable {Q : Fl × Env → Prop} {e : Env} {m ma mb mc : Env → W PyData} {ml mr : Env → W (List PyData)} {mt mu : Env → W Bool} {i j n : Nat} {sa sb : Ms}
@[simp] theorem r_sAsg : (sAsg i m e).run Q = (m e).run fun d => Q (.nx, e.set i (.imm d)) := rfl
@[simp] theorem r_sAsgG (mg : PyData → Env → W Env) : (sAsgG mg m e).run Q = (m e).run fun d => (mg d e).run fun e1 => Q (.nx, e1) := rfl
@[simp] theorem r_sAsgL : (sAsgL i ml e).run Q = (ml e).run fun d => Q (.nx, e.set i (.lst d)) := rfl
@[simp] theorem r_sNewK : (sNewK i e).run Q = Q (.nx, e.set i (.dK [])) := rfl
@[simp] theorem r_sNil : (sNil e).run Q = Q (.nx, e) := rfl
def onFl (r : Fl × Env) (P : Env → Prop) (Q : Fl × Env → Prop) : Prop := match r.1 with
  | .nx => P r.2
  | _ => Q r
@[simp] theorem onFl_nx (e : Env) (P : Env → Prop) : onFl (.nx, e) P Q = P e := rfl
@[simp] theorem onFl_bk (e : Env) (P : Env → Prop) : onFl (.bk, e) P Q = Q (.bk, e) := rfl
@[simp] theorem onFl_ct (e : Env) (P : Env → Prop) : onFl (.ct, e) P Q = Q (.ct, e) := rfl
@[simp] theorem onFl_rt (v : Rv) (e : Env) (P : Env → Prop) : onFl (.rt v, e) P Q = Q (.rt v, e) := rfl
@[simp] theorem r_sSeq : (sSeq sa sb e).run Q = (sa e).run fun r => onFl r (fun e1 => (sb e1).run Q) Q := by
  show (sa e).run _ = _
  congr 1; funext r
  obtain ⟨f, e1⟩ := r
  cases f <;> rfl
@[simp] theorem r_sBreak : (sBreak e).run Q = Q (.bk, e) := rfl
@[simp] theorem r_sCont : (sCont e).run Q = Q (.ct, e) := rfl
@[simp] theorem r_sIf : (sIf mt sa sb e).run Q = (mt e).run fun b => if b = true then (sa e).run Q else (sb e).run Q := by
  show (mt e).run _ = _
  congr 1; funext b; cases b <;> rfl
@[simp] theorem r_sRet : (sRet m e).run Q = (m e).run fun d => Q (.rt (.im d), e) := rfl
@[simp] theorem r_sRetN : (sRetN e).run Q = Q (.rt (.im .none), e) := rfl
@[simp] theorem r_sRetL : (sRetL ml e).run Q = (ml e).run fun d => Q (.rt (.fr d), e) := rfl
def onLst (s : Sl) (P : List PyData → Prop) : Prop := match s with
  | .lst d => P d
  | _ => False
@[simp] theorem onLst_i (d : List PyData) (P : List PyData → Prop) : onLst (.lst d) P = P d := rfl
@[simp] theorem r_sRetB : (sRetB i e).run Q = onLst (gt e i) fun d => Q (.rt (.fr d), e) := by
  unfold sRetB onLst
  cases gt e i <;> rfl
@[simp] theorem r_sDrop : (sDrop m e).run Q = (m e).run fun _ => Q (.nx, e) := rfl
@[simp] theorem r_sApp : (sApp i m e).run Q = (asL (gt e i)).run fun ds => (m e).run fun d => ds.length < sizeLine ∧ Q (.nx, e.set i (.lst (ds ++ [d]))) := rfl
@[simp] theorem r_sExt : (sExt i m e).run Q = (asL (gt e i)).run fun ds => (m e).run fun d => (asSeq d).run fun es => ds.length + es.length ≤ sizeLine ∧ Q (.nx, e.set i (.lst (ds ++ es))) := rfl
@[simp] theorem r_sFrz (ix : List Nat) : (sFrz ix sa e).run Q = (sa (frz ix e)).run Q := rfl
@[simp] theorem r_sFor (kl : List Nat) (mg : PyData → Env → W Env) : (sFor kl ml mg sa e).run Q = (ml e).run fun ds => (loopM kl mg sa ds (killE kl e)).run Q := rfl
@[simp] theorem r_sDPut (mk mv : Env → W PyData) : (sDPut j mk mv e).run Q = (asDK (gt e j)).run fun kvs => (mv e).run fun d => (mk e).run fun x => (keyW x).run fun k => kvs.length < sizeLine ∧ Q (.nx, e.set j (.dK (putP kvs k d))) := rfl
def onI (d : PyData) (P : Int → Prop) : Prop := match d with
  | .int z => P z
  | _ => False
@[simp] theorem onI_i (z : Int) (P : Int → Prop) : onI (.int z) P = P z := rfl
@[simp] theorem r_sSetP (k : Nat) : (sSetP k m e).run Q = (asL (gt e 0)).run fun ds => (m e).run fun d => onI d fun z => k < ds.length ∧ Q (.nx, e.set 0 (.lst (ds.set k (.int z)))) := by
  show (asL (gt e 0)).run _ = _
  congr 1; funext ds
  show (m e).run _ = _
  congr 1; funext d
  cases d <;> rfl
@[simp] theorem r_sAug (f : Int → Int → Int) : (sAug i f m e).run Q = onImm (gt e i) fun a => onI a fun x => (m e).run fun d => onI d fun y => Q (.nx, e.set i (.imm (.int (f x y)))) := by
  unfold sAug onImm onI
  cases gt e i with
  | imm a =>
    cases a with
    | int x =>
      show (m e).run _ = _
      congr 1; funext d; cases d <;> rfl
    | _ => rfl
  | adr a => cases a <;> rfl
  | _ => rfl
end
/-! built-in steps on data -/
@[simp] theorem fAdd_i (a b : Int) : fAdd (.int a) (.int b) = pure (.int (a + b)) := rfl
@[simp] theorem fAdd_s (a b : Str) (Q : PyData → Prop) : (fAdd (.str a) (.str b)).run Q = ((a.length + b.length ≤ sizeLine) ∧ Q (.str (a ++ b))) := rfl
@[simp] theorem fAdd_t (a b : List PyData) (Q : PyData → Prop) : (fAdd (.tuple a) (.tuple b)).run Q = ((a.length + b.length ≤ sizeLine) ∧ Q (.tuple (a ++ b))) := rfl
@[simp] theorem fAdd_l (a b : List PyData) (Q : PyData → Prop) : (fAdd (.list a) (.list b)).run Q = ((a.length + b.length ≤ sizeLine) ∧ Q (.list (a ++ b))) := rfl
@[simp] theorem fI_i (C : Int → Int → Prop) (g : Int → Int → PyData) (a b : Int) (Q : PyData → Prop) : (fI C g (.int a) (.int b)).run Q = ((C a b) ∧ Q (g a b)) := rfl
@[simp] theorem fI0_i (g : Int → Int → PyData) (a b : Int) : fI0 g (.int a) (.int b) = pure (g a b) := rfl
@[simp] theorem fNeg_i (a : Int) : fNeg (.int a) = pure (.int (-a)) := rfl
@[simp] theorem fGt_i (a b : Int) : fGt (.int a) (.int b) = pure (.bool (decide (b < a))) := rfl
@[simp] theorem fIsN_n (a : PyData) : fIsN a .none = pure (.bool (isNone a)) := rfl
@[simp] theorem fNotN_n (a : PyData) : fNotN a .none = pure (.bool (!isNone a)) := rfl
@[simp] theorem isNone_n : isNone .none = true := rfl
@[simp] theorem isNone_t (a : List PyData) : isNone (.tuple a) = false := rfl
@[simp] theorem isNone_l (a : List PyData) : isNone (.list a) = false := rfl
@[simp] theorem isNone_i (a : Int) : isNone (.int a) = false := rfl
@[simp] theorem isNone_s (a : Str) : isNone (.str a) = false := rfl
@[simp] theorem fLen_l (a : List PyData) : fLen [.list a] = pure (.int a.length) := rfl
@[simp] theorem fLen_t (a : List PyData) : fLen [.tuple a] = pure (.int a.length) := rfl
@[simp] theorem fLen_s (a : Str) (Q : PyData → Prop) : (fLen [.str a]).run Q = ((a.length ≤ sizeLine) ∧ Q (.int a.length)) := rfl
@[simp] theorem fAbs_i (a : Int) : fAbs [.int a] = pure (.int (if a < 0 then -a else a)) := rfl
@[simp] theorem fMin2_i (a b : Int) : fMin2 [.int a, .int b] = pure (.int (if b < a then b else a)) := rfl
@[simp] theorem fMax2_i (a b : Int) : fMax2 [.int a, .int b] = pure (.int (if b > a then b else a)) := rfl
@[simp] theorem fTupOf_l (a : List PyData) : fTupOf [.list a] = pure (.tuple a) := rfl
@[simp] theorem fTupOf_t (a : List PyData) : fTupOf [.tuple a] = pure (.tuple a) := rfl
@[simp] theorem fListOf_l (a : List PyData) : fListOf [.list a] = pure a := rfl
@[simp] theorem fListOf_t (a : List PyData) : fListOf [.tuple a] = pure a := rfl
@[simp] theorem fListOf_s (a : Str) (Q : List PyData → Prop) : (fListOf [.str a]).run Q = (a.length ≤ sizeLine ∧ Q (signsD a)) := rfl
@[simp] theorem fSorted_l (a : List PyData) (Q : List PyData → Prop) : (fSorted [.list a]).run Q = ((sortable a ∧ a.length ≤ sizeLine) ∧ Q (sortD a)) := rfl
@[simp] theorem fSorted_t (a : List PyData) (Q : List PyData → Prop) : (fSorted [.tuple a]).run Q = ((sortable a ∧ a.length ≤ sizeLine) ∧ Q (sortD a)) := rfl
@[simp] theorem fSl_t (a : List PyData) (l h : Option Int) : fSl (.tuple a) l h = pure (.tuple (cutL a l h)) := rfl
@[simp] theorem fSl_l (a : List PyData) (l h : Option Int) : fSl (.list a) l h = pure (.list (cutL a l h)) := rfl
@[simp] theorem fSl_s (a : Str) (l h : Option Int) (Q : PyData → Prop) : (fSl (.str a) l h).run Q = ((a.length ≤ sizeLine) ∧ Q (.str (L2.cutS a l h))) := rfl
@[simp] theorem rng1_i (a : Int) (Q : List PyData → Prop) : (rng1 [.int a]).run Q = ((-(2 ^ 62) ≤ a ∧ a < 2 ^ 62) ∧ Q (rgD 0 a.toNat)) := rfl
@[simp] theorem rng2_i (a b : Int) (Q : List PyData → Prop) : (rng2 [.int a, .int b]).run Q = ((-(2 ^ 62) ≤ a ∧ a < 2 ^ 62 ∧ -(2 ^ 62) ≤ b ∧ b < 2 ^ 62) ∧ Q (rgD a (b - a).toNat)) := rfl
@[simp] theorem truthD_b (b : Bool) : truthD (.bool b) = pure b := rfl
@[simp] theorem truthD_i (b : Int) : truthD (.int b) = pure (b != 0) := rfl
@[simp] theorem truthD_n : truthD .none = pure false := rfl
@[simp] theorem truthD_l (b : List PyData) : truthD (.list b) = pure (!b.isEmpty) := rfl
@[simp] theorem truthD_t (b : List PyData) : truthD (.tuple b) = pure (!b.isEmpty) := rfl
@[simp] theorem atI_z {a : Type} (x : a) (xs : List a) : L2.atI (x :: xs) 0 = some x := by
  unfold L2.atI L2.ixN
  simp
@[simp] theorem atI_o {a : Type} (ds : List a) : L2.atI ds 1 = ds[1]? := by
  unfold L2.atI L2.ixN
  simp only [show (0 : Int) ≤ 1 by decide, if_true]
  split
  · rfl
  · simp; omega
@[simp] theorem atI_lit {a : Type} (ds : List a) (n : Nat) : L2.atI ds (no_index (@OfNat.ofNat Int n instOfNat)) = ds[n]? := by
  unfold L2.atI L2.ixN
  have h0 : (0 : Int) ≤ (@OfNat.ofNat Int n instOfNat) := Int.natCast_nonneg n
  rw [if_pos h0]
  have h1 : ((@OfNat.ofNat Int n instOfNat).toNat) = n := rfl
  split
  · rw [h1]; rfl
  · rename_i h
    have h2 : ¬ ((n : Int) < ds.length) := h
    simp; omega
theorem atI_nat {a : Type} (ds : List a) (n : Nat) : L2.atI ds (n : Int) = ds[n]? := atI_lit ds n
@[simp] theorem lfree_i (z : Int) : lfree (.int z) = true := rfl
@[simp] theorem lfree_s (z : Str) : lfree (.str z) = true := rfl
@[simp] theorem lfree_b (z : Bool) : lfree (.bool z) = true := rfl
@[simp] theorem lfree_n : lfree .none = true := rfl
@[simp] theorem lfree_t (z : List PyData) : lfree (.tuple z) = lfreeAll z := rfl
@[simp] theorem lfreeAll_n : lfreeAll [] = true := rfl
@[simp] theorem lfreeAll_c (z : PyData) (r : List PyData) : lfreeAll (z :: r) = (lfree z && lfreeAll r) := rfl
theorem atI_int {ns : List Int} {a : Int} (h0 : 0 ≤ a) (h1 : a < ns.length) : ∃ z, L2.atI (ns.map PyData.int) a = some (.int z) := by
  obtain ⟨k, rfl⟩ := Int.eq_ofNat_of_zero_le h0
  rw [atI_nat]
  have hk : k < ns.length := by omega
  exact ⟨ns[k], by simp [hk]⟩
def onSome {a : Type} (o : Option a) (P : a → Prop) : Prop := match o with
  | some x => P x
  | none => False
@[simp] theorem onSome_s {a : Type} (x : a) (P : a → Prop) : onSome (some x) P = P x := rfl
@[simp] theorem r_fIx_l (ds : List PyData) (k : Int) (Q : PyData → Prop) : (fIx (.list ds) (.int k)).run Q = onSome (L2.atI ds k) Q := by
  simp only [fIx, onSome]
  cases L2.atI ds k <;> rfl
@[simp] theorem r_fIx_t (ds : List PyData) (k : Int) (Q : PyData → Prop) : (fIx (.tuple ds) (.int k)).run Q = onSome (L2.atI ds k) Q := by
  simp only [fIx, onSome]
  cases L2.atI ds k <;> rfl
@[simp] theorem r_fIx_s (z : Str) (k : Int) (Q : PyData → Prop) : (fIx (.str z) (.int k)).run Q = onSome (L2.atI z.cps.toList k) fun c => z.length ≤ sizeLine ∧ Q (.str ⟨#[c]⟩) := by
  simp only [fIx, onSome]
  cases L2.atI z.cps.toList k <;> rfl
theorem r_fEq (a b : PyData) (Q : PyData → Prop) : (fEq a b).run Q = ((plOk a = true ∧ plOk b = true) ∧ Q (.bool (PyData.eqv a b))) := rfl
theorem r_fNe (a b : PyData) (Q : PyData → Prop) : (fNe a b).run Q = ((plOk a = true ∧ plOk b = true) ∧ Q (.bool (!PyData.eqv a b))) := rfl
@[simp] theorem plOk_i (a : Int) : plOk (.int a) = true := rfl
@[simp] theorem plOk_s (a : Str) : plOk (.str a) = true := rfl
@[simp] theorem plOk_n : plOk .none = true := rfl
@[simp] theorem plOk_b (a : Bool) : plOk (.bool a) = true := rfl
@[simp] theorem fEq_ii (a b : Int) (Q : PyData → Prop) : (fEq (.int a) (.int b)).run Q = Q (.bool (decide (a = b))) := by
  rw [r_fEq]
  have : PyData.eqv (.int a) (.int b) = decide (a = b) := PySem.W.Datum.eqv (α := Int) a b
  rw [this]; simp
@[simp] theorem fNe_ii (a b : Int) (Q : PyData → Prop) : (fNe (.int a) (.int b)).run Q = Q (.bool (!decide (a = b))) := by
  rw [r_fNe]
  have : PyData.eqv (.int a) (.int b) = decide (a = b) := PySem.W.Datum.eqv (α := Int) a b
  rw [this]; simp
@[simp] theorem fEq_ss (a b : Str) (Q : PyData → Prop) : (fEq (.str a) (.str b)).run Q = Q (.bool (decide (a = b))) := by
  rw [r_fEq]
  have : PyData.eqv (.str a) (.str b) = decide (a = b) := PySem.W.Datum.eqv (α := Str) a b
  rw [this]; simp
theorem r_fLt (a b : PyData) (Q : PyData → Prop) : (fLt a b).run Q = ((PySem.W.alike a b = true ∧ a ≠ .none ∧ a.depth ≤ 60) ∧ Q (.bool (PySem.W.dataLt a b))) := rfl
@[simp] theorem fLt_ii (a b : Int) (Q : PyData → Prop) : (fLt (.int a) (.int b)).run Q = Q (.bool (decide (a < b))) := by
  rw [r_fLt, PySem.W.dataLt_int]
  have h1 : PySem.W.alike (.int a) (.int b) = true := PySem.W.DatumOrd.alike (α := Int) a b
  have h2 : (PyData.int a).depth ≤ 60 := Nat.le_trans (PySem.W.Datum.depth_le (α := Int) a) (by decide)
  simp [h1, h2]
@[simp] theorem fLt_ss (a b : Str) (Q : PyData → Prop) : (fLt (.str a) (.str b)).run Q = Q (.bool (decide (a.cps.toList < b.cps.toList))) := by
  rw [r_fLt, PySem.W.dataLt_str]
  have h1 : PySem.W.alike (.str a) (.str b) = true := PySem.W.DatumOrd.alike (α := Str) a b
  have h2 : (PyData.str a).depth ≤ 60 := Nat.le_trans (PySem.W.Datum.depth_le (α := Str) a) (by decide)
  simp [h1, h2]
/-! data of a Lean type -/
section
variable {α : Type} [DecidableEq α] [PySem.W.Datum α]
abbrev tD (a : α) : PyData := PySem.W.Datum.toD a
theorem plOk_D (h : PySem.W.Datum.depth α ≤ 64) (a : α) : plOk (tD a) = true := by
  unfold plOk
  rw [PySem.W.Datum.plain, Bool.true_and, decide_eq_true_eq]
  exact Nat.le_trans (PySem.W.Datum.depth_le a) h
theorem fEq_D (h : PySem.W.Datum.depth α ≤ 64) (a b : α) {Q : PyData → Prop} (q : Q (.bool (decide (a = b)))) : (fEq (tD a) (tD b)).run Q :=
  ⟨⟨plOk_D h a, plOk_D h b⟩, by rw [PySem.W.Datum.eqv]; exact q⟩
theorem fNe_D (h : PySem.W.Datum.depth α ≤ 64) (a b : α) {Q : PyData → Prop} (q : Q (.bool (!decide (a = b)))) : (fNe (tD a) (tD b)).run Q :=
  ⟨⟨plOk_D h a, plOk_D h b⟩, by rw [PySem.W.Datum.eqv]; exact q⟩
theorem inD_D (a : α) (xs : List α) : inD (tD a) (xs.map tD) = decide (a ∈ xs) := PySem.W.any_datum xs a
theorem fIn_Dl (h : PySem.W.Datum.depth α ≤ 63) (neg : Bool) (a : α) (xs : List α) {Q : PyData → Prop} (q : Q (.bool (if neg then !decide (a ∈ xs) else decide (a ∈ xs)))) : (fIn' neg (tD a) (.list (xs.map tD))).run Q := by
  refine ⟨⟨plOk_D (by omega) a, plOk_D (α := List α) (by show _ + 1 ≤ 64; omega) xs⟩, ?_⟩
  rw [inD_D]; exact q
theorem fIn_Dt (h : PySem.W.Datum.depth α ≤ 63) (neg : Bool) (a : α) (xs : List α) {Q : PyData → Prop} (q : Q (.bool (if neg then !decide (a ∈ xs) else decide (a ∈ xs)))) : (fIn' neg (tD a) (.tuple (xs.map tD))).run Q := by
  refine ⟨⟨plOk_D (by omega) a, plOk_D (α := PySem.W.Tup α) (by show _ + 1 ≤ 64; omega) ⟨xs⟩⟩, ?_⟩
  rw [inD_D]; exact q
end
section
variable {α : Type} [DecidableEq α] [PySem.W.DatumOrd α]
theorem fLt_D (h : PySem.W.Datum.depth α ≤ 60) (a b : α) {Q : PyData → Prop} (q : Q (.bool (PySem.W.DatumOrd.lt a b))) : (fLt (tD a) (tD b)).run Q :=
  ⟨⟨PySem.W.DatumOrd.alike a b, PySem.W.DatumOrd.notNone a, Nat.le_trans (PySem.W.Datum.depth_le a) h⟩, by rw [PySem.W.DatumOrd.lt_eq]; exact q⟩
def leO (a b : α) : Bool := !PySem.W.DatumOrd.lt b a
theorem dataLe_D (a b : α) : PySem.W.dataLe false id (tD a) (tD b) = leO a b := by
  rw [PySem.W.dataLe_eq]
  show (!PySem.W.dataLt (tD b) (tD a)) = _
  rw [PySem.W.DatumOrd.lt_eq]; rfl
theorem sortD_D (xs : List α) : sortD (xs.map tD) = (xs.mergeSort leO).map tD := by
  unfold sortD
  rw [List.map_mergeSort]
  intro a _ b _
  exact (dataLe_D a b).symm
theorem sortable_D (h : PySem.W.Datum.depth α ≤ 60) (hk : (∀ a : α, ∃ xs, tD a = .tuple xs) ∨ ∀ a : α, ∀ xs, tD a ≠ .tuple xs) (xs : List α) : sortable (xs.map tD) := by
  refine ⟨fun d hd e he => ?_, fun d hd => ?_, ?_⟩
  · obtain ⟨a, _, rfl⟩ := List.mem_map.mp hd
    obtain ⟨b, _, rfl⟩ := List.mem_map.mp he
    exact PySem.W.DatumOrd.alike a b
  · obtain ⟨a, _, rfl⟩ := List.mem_map.mp hd
    exact Nat.le_trans (PySem.W.Datum.depth_le a) h
  · rcases hk with hk | hk
    · refine .inl fun d hd => ?_
      obtain ⟨a, _, rfl⟩ := List.mem_map.mp hd
      exact hk a
    · refine .inr fun d hd => ?_
      obtain ⟨a, _, rfl⟩ := List.mem_map.mp hd
      exact ⟨PySem.W.DatumOrd.notNone a, hk a⟩
theorem sortable_s (xs : List Str) : sortable (xs.map PyData.str) := sortable_D (α := Str) (by decide) (.inr fun a xs e => by cases e) xs
theorem sortable_i (xs : List Int) : sortable (xs.map PyData.int) := sortable_D (α := Int) (by decide) (.inr fun a xs e => by cases e) xs
end
/-! loops -/
def onLp (r : Fl × Env) (go stop : Env → Prop) (Q : Fl × Env → Prop) : Prop := match r.1 with
  | .nx => go r.2
  | .ct => go r.2
  | .bk => stop r.2
  | .rt _ => Q r
section
variable {Q : Fl × Env → Prop}
@[simp] theorem onLp_nx (e : Env) (P R : Env → Prop) : onLp (.nx, e) P R Q = P e := rfl
@[simp] theorem onLp_bk (e : Env) (P R : Env → Prop) : onLp (.bk, e) P R Q = R e := rfl
@[simp] theorem onLp_ct (e : Env) (P R : Env → Prop) : onLp (.ct, e) P R Q = P e := rfl
@[simp] theorem onLp_rt (v : Rv) (e : Env) (P R : Env → Prop) : onLp (.rt v, e) P R Q = Q (.rt v, e) := rfl
theorem loop_cons {kl : List Nat} {mg : PyData → Env → W Env} {mb : Ms} {d : PyData} {r : List PyData} {e : Env} :
    (loopM kl mg mb (d :: r) e).run Q = (mg d e).run fun e1 => (mb e1).run fun q => onLp q (fun e2 => (loopM kl mg mb r (killE kl e2)).run Q) (fun e2 => Q (.nx, killE kl e2)) Q := by
  show (mg d e).run _ = _
  congr 1; funext e1
  show (mb e1).run _ = _
  congr 1; funext q
  obtain ⟨f, e2⟩ := q
  cases f <;> rfl
@[simp] theorem loop_nil {kl : List Nat} {mg : PyData → Env → W Env} {mb : Ms} {e : Env} : (loopM kl mg mb [] e).run Q = Q (.nx, e) := rfl
/-- a loop by an invariant of what is left and of the state -/
theorem loop_inv {kl : List Nat} {mg : PyData → Env → W Env} {mb : Ms} (I : List PyData → Env → Prop)
    (hs : ∀ d r e, I (d :: r) e → (mg d e).run fun e1 => (mb e1).run fun q => onLp q (fun e2 => I r (killE kl e2)) (fun e2 => Q (.nx, killE kl e2)) Q)
    (hd : ∀ e, I [] e → Q (.nx, e)) : ∀ ds e, I ds e → (loopM kl mg mb ds e).run Q
  | [], e, h => hd e h
  | d :: r, e, h => by
    rw [loop_cons]
    refine W.to (hs d r e h) fun e1 h1 => W.to h1 fun q hq => ?_
    obtain ⟨f, e2⟩ := q
    cases f with
    | nx => exact loop_inv I hs hd r _ hq
    | ct => exact loop_inv I hs hd r _ hq
    | bk => exact hq
    | rt v => exact hq
end
/-! comprehensions -/
section
variable {QL : List PyData → Prop} {mg : PyData → Env → W Env} {mt : Env → W Bool} {me : Env → W PyData} {e : Env}
@[simp] theorem r_mLc {ws : List Nat} {mi : Env → W (List PyData)} : (mLc ws mi mg mt me e).run QL = (mi e).run fun ds => ds.length ≤ sizeLine ∧ (lcM mg mt me (wipeE e ws) ds).run QL := rfl
theorem lc_cons {d : PyData} {r : List PyData} : (lcM mg mt me e (d :: r)).run QL = (mg d e).run fun e1 => (mt e1).run fun b => if b = true then (me e1).run fun y => (lcM mg mt me e r).run fun t => QL (y :: t) else (lcM mg mt me e r).run QL := by
  show (mg d e).run _ = _
  congr 1; funext e1
  show (mt e1).run _ = _
  congr 1; funext b; cases b <;> rfl
/-- each item alone, and what it gives -/
theorem lc_fm (f : PyData → Option PyData) : ∀ (ds : List PyData), (∀ d ∈ ds, (mg d e).run fun e1 => (mt e1).run fun b => if b = true then (me e1).run fun y => f d = some y else f d = none) → ∀ {QL : List PyData → Prop}, QL (ds.filterMap f) → (lcM mg mt me e ds).run QL
  | [], _, QL, q => q
  | d :: r, h, QL, q => by
    rw [lc_cons]
    refine W.to (h d (List.mem_cons_self ..)) fun e1 h1 => W.to h1 fun b hb => ?_
    have ih : ∀ {QL : List PyData → Prop}, QL (r.filterMap f) → (lcM mg mt me e r).run QL := fun {QL} q => lc_fm f r (fun x hx => h x (List.mem_cons_of_mem _ hx)) q
    cases b with
    | true =>
      refine W.to (P := fun y => f d = some y) hb fun y hy => ih ?_
      rw [List.filterMap_cons, hy] at q
      exact q
    | false =>
      have hy : f d = none := hb
      rw [List.filterMap_cons, hy] at q
      exact ih q
theorem filterMap_map {a b : Type} (f : a → b) : ∀ ds : List a, ds.filterMap (fun d => some (f d)) = ds.map f
  | [] => rfl
  | d :: r => by rw [List.filterMap_cons, filterMap_map f r]; rfl
/-- .. over typed items: for x in xs if p x -/
theorem lc_typed {α : Type} (t : α → PyData) (p : α → Bool) (f : α → PyData) : ∀ (xs : List α), (∀ x ∈ xs, (mg (t x) e).run fun e1 => (mt e1).run fun b => b = p x ∧ (p x = true → (me e1).run fun y => y = f x)) → ∀ {QL : List PyData → Prop}, QL ((xs.filter p).map f) → (lcM mg mt me e (xs.map t)).run QL
  | [], _, QL, q => q
  | x :: r, h, QL, q => by
    rw [List.map_cons, lc_cons]
    refine W.to (h x (List.mem_cons_self ..)) fun e1 h1 => W.to h1 fun b hb => ?_
    have ih : ∀ {QL : List PyData → Prop}, QL ((r.filter p).map f) → (lcM mg mt me e (r.map t)).run QL := fun {QL} q => lc_typed t p f r (fun x hx => h x (List.mem_cons_of_mem _ hx)) q
    obtain ⟨rfl, hb⟩ := hb
    cases c : p x with
    | true =>
      rw [if_pos rfl]
      refine W.to (hb c) fun y hy => ih ?_
      subst hy
      rw [List.filter_cons_of_pos c] at q
      exact q
    | false =>
      rw [if_neg (by decide)]
      rw [List.filter_cons_of_neg (by rw [c]; decide)] at q
      exact ih q
/-- .. where each item may be any of many -/
theorem lc_some {α : Type} (t : α → PyData) (P : PyData → Prop) : ∀ (xs : List α), (∀ x ∈ xs, (mg (t x) e).run fun e1 => (mt e1).run fun b => b = true ∧ (me e1).run P) → ∀ {QL : List PyData → Prop}, (∀ ys : List PyData, ys.length = xs.length → (∀ y ∈ ys, P y) → QL ys) → (lcM mg mt me e (xs.map t)).run QL
  | [], _, QL, q => q [] rfl (fun _ h => by cases h)
  | x :: r, h, QL, q => by
    rw [List.map_cons, lc_cons]
    refine W.to (h x (List.mem_cons_self ..)) fun e1 h1 => W.to h1 fun b hb => ?_
    obtain ⟨rfl, hb⟩ := hb
    rw [if_pos rfl]
    refine W.to hb fun y hy => ?_
    refine lc_some t P r (fun x hx => h x (List.mem_cons_of_mem _ hx)) fun ys hl hys => q (y :: ys) (by simp [hl]) fun z hz => ?_
    rcases List.mem_cons.mp hz with rfl | hz
    · exact hy
    · exact hys z hz
end
/-! a def's mirror -/
def onRet (r : Fl × Env) (Q : Rv → Prop) : Prop := match r.1 with
  | .rt v => Q v
  | .nx => Q (.im .none)
  | _ => False
@[simp] theorem onRet_rt (v : Rv) (e : Env) (Q : Rv → Prop) : onRet (.rt v, e) Q = Q v := rfl
@[simp] theorem onRet_nx (e : Env) (Q : Rv → Prop) : onRet (.nx, e) Q = Q (.im .none) := rfl
@[simp] theorem r_mFn {k : Nat} {ms : Ms} {args : List Sl} {Q : Rv → Prop} : (mFn k ms args).run Q = (ms (args ++ List.replicate k .any)).run fun r => onRet r Q := by
  show (ms _).run _ = _
  congr 1; funext r
  obtain ⟨f, e⟩ := r
  cases f <;> rfl
@[simp] theorem r_mNext (k : Nat) (n : Int) (Q : Rv → Prop) : (mNext [.opq k, .imm (.int n)]).run Q = ((1 ≤ n ∧ n < 2 ^ 62) ∧ ∀ x, 0 ≤ x ∧ x < n → Q (.im (.int x))) := rfl
@[simp] theorem szL : sizeLine = 16777216 := rfl
section
variable {e : Env} {i : Nat} {ws : List Nat} {m : Env → W PyData} {mm : Env → W (PyData × Env)} {mlm : Env → W (List PyData × Env)} {P : PyData × Env → Prop} {PL : List PyData × Env → Prop} {Q : Fl × Env → Prop}
@[simp] theorem r_mFrzM : (mFrzM mlm e).run P = (mlm e).run fun r => P (.list r.1, r.2) := rfl
@[simp] theorem r_mOf : (mOf m e).run P = (m e).run fun d => P (d, e) := rfl
@[simp] theorem r_mCBM (f : List PyData → W PyData) : (mCBM f mm e).run P = (mm e).run fun a => (f [a.1]).run fun d => P (d, a.2) := rfl
@[simp] theorem r_mCBLM (f : List PyData → W (List PyData)) : (mCBLM f mm e).run PL = (mm e).run fun a => (f [a.1]).run fun d => PL (d, a.2) := rfl
@[simp] theorem r_mPopAt : (mPopAt i m e).run P = (asL (gt e i)).run fun ds => (m e).run fun d => onI d fun k => onSome (ds[k.toNat]?) fun x => (0 ≤ k ∧ k < 2 ^ 63) ∧ P (x, e.set i (.lst (ds.eraseIdx k.toNat))) := by
  show (asL (gt e i)).run _ = _
  congr 1; funext ds
  show (m e).run _ = _
  congr 1; funext d
  cases d with
  | int k =>
    simp only [onI, onSome]
    cases ds[k.toNat]? <;> rfl
  | _ => rfl
@[simp] theorem r_mPop : (mPop i e).run P = (asL (gt e i)).run fun ds => onSome ds.getLast? fun x => P (x, e.set i (.lst ds.dropLast)) := by
  show (asL (gt e i)).run _ = _
  congr 1; funext ds
  simp only [onSome]
  cases ds.getLast? <;> rfl
@[simp] theorem r_mLcM {mi : Env → W (List PyData)} : (mLcM i mi mm e).run PL = (mi e).run fun ds => ds.length ≤ sizeLine ∧ (lcMM [i] i mm ds (wipeE e [i])).run PL := rfl
@[simp] theorem lcMM_nil : (lcMM ws i mm [] e).run PL = PL ([], e) := rfl
theorem lcMM_cons {d : PyData} {r : List PyData} : (lcMM ws i mm (d :: r) e).run PL = (mm (e.set i (.imm d))).run fun y => (lcMM ws i mm r (wipeE y.2 ws)).run fun t => PL (y.1 :: t.1, t.2) := rfl
@[simp] theorem r_sAsgM {j : Nat} : (sAsgM j mm e).run Q = (mm e).run fun d => Q (.nx, d.2.set j (.imm d.1)) := rfl
@[simp] theorem r_sAsgLM {j : Nat} : (sAsgLM j mlm e).run Q = (mlm e).run fun d => Q (.nx, d.2.set j (.lst d.1)) := rfl
@[simp] theorem r_sRetM : (sRetM mm e).run Q = (mm e).run fun d => Q (.rt (.im d.1), d.2) := rfl
@[simp] theorem r_sRetLM : (sRetLM mlm e).run Q = (mlm e).run fun d => Q (.rt (.fr d.1), d.2) := rfl
end
theorem cutL_map {a b : Type} (f : a → b) (xs : List a) (lo hi : Option Int) : cutL (xs.map f) lo hi = (cutL xs lo hi).map f := by
  unfold cutL
  rw [List.length_map, List.map_take, List.map_drop]
theorem cutL_mem {a : Type} {xs : List a} {lo hi : Option Int} {x : a} (h : x ∈ cutL xs lo hi) : x ∈ xs := List.mem_of_mem_drop (List.mem_of_mem_take h)
theorem lfree_str (xs : List Str) : lfreeAll (xs.map PyData.str) = true := by
  induction xs with
  | nil => rfl
  | cons x r ih => simp [ih]
def on2 (l : List PyData) (P : PyData → PyData → Prop) : Prop := match l with
  | [a, b] => P a b
  | _ => False
@[simp] theorem on2_i (a b : PyData) (P : PyData → PyData → Prop) : on2 [a, b] P = P a b := rfl
@[simp] theorem r_sPar {e : Env} {mr : Env → W (List PyData)} {i j : Nat} {Q : Fl × Env → Prop} : (sPar i j mr e).run Q = (mr e).run fun l => on2 l fun a b => Q (.nx, (e.set i (.imm a)).set j (.imm b)) := by
  show (mr e).run _ = _
  congr 1; funext l
  match l with
  | [] => rfl
  | [_] => rfl
  | [_, _] => rfl
  | _ :: _ :: _ :: _ => rfl
/-! while: with n turns to spend -/
theorem while_s {kl : List Nat} {mc : Env → W Bool} {mb : Ms} {e : Env} {Q : Fl × Env → Prop} (n : Nat) (h : (whileM kl mc mb n (killE kl e)).run Q) : (sWhile kl mc mb e).run Q := ⟨n, h⟩
theorem while_c {kl : List Nat} {mc : Env → W Bool} {mb : Ms} {e : Env} {n : Nat} {Q : Fl × Env → Prop} :
    (whileM kl mc mb (n + 1) e).run Q = (mc e).run fun b => if b = true then (mb e).run fun q => onLp q (fun e2 => (whileM kl mc mb n (killE kl e2)).run Q) (fun e2 => Q (.nx, killE kl e2)) Q else Q (.nx, e) := by
  show (mc e).run _ = _
  congr 1; funext b
  cases b with
  | true =>
    show (mb e).run _ = _
    rw [if_pos rfl]
    congr 1; funext q
    obtain ⟨f, e2⟩ := q
    cases f <;> rfl
  | false => rfl
@[simp] theorem fNe_ss (a b : Str) (Q : PyData → Prop) : (fNe (.str a) (.str b)).run Q = Q (.bool (!decide (a = b))) := by
  rw [r_fNe]
  have : PyData.eqv (.str a) (.str b) = decide (a = b) := PySem.W.Datum.eqv (α := Str) a b
  rw [this]; simp
@[simp] theorem frz1_imm (d : PyData) (e : Env) (i : Nat) : frz1 (.imm d) e i = e := rfl
@[simp] theorem frz1_any (e : Env) (i : Nat) : frz1 .any e i = e := rfl
end Z
namespace Z
open PySem PySem.W
/-! ### strict total orders of typed data -/
class SOrd (α : Type) [DecidableEq α] [DatumOrd α] : Prop where
  irr : ∀ a : α, DatumOrd.lt a a = false
  tr : ∀ {a b c : α}, DatumOrd.lt a b = true → DatumOrd.lt b c = true → DatumOrd.lt a c = true
  tri : ∀ {a b : α}, DatumOrd.lt a b = false → DatumOrd.lt b a = false → a = b
instance : SOrd Int where
  irr a := by show decide (a < a) = false; simp
  tr {a b c} h1 h2 := by
    have h1 : decide (a < b) = true := h1
    have h2 : decide (b < c) = true := h2
    show decide (a < c) = true
    simp at *; omega
  tri {a b} h1 h2 := by
    have h1 : decide (a < b) = false := h1
    have h2 : decide (b < a) = false := h2
    simp at *; omega
instance : SOrd Str where
  irr a := by show decide (a.cps.toList < a.cps.toList) = false; simp [List.lt_irrefl]
  tr {a b c} h1 h2 := by
    have h1 : decide (a.cps.toList < b.cps.toList) = true := h1
    have h2 : decide (b.cps.toList < c.cps.toList) = true := h2
    show decide (a.cps.toList < c.cps.toList) = true
    simp only [decide_eq_true_eq] at *
    exact List.lt_trans h1 h2
  tri {a b} h1 h2 := by
    have h1 : decide (a.cps.toList < b.cps.toList) = false := h1
    have h2 : decide (b.cps.toList < a.cps.toList) = false := h2
    simp only [decide_eq_false_iff_not] at *
    exact PySem.W.str_of_cps (List.le_antisymm (List.not_lt.mp h2) (List.not_lt.mp h1))
section
variable {α β : Type} [DecidableEq α] [DatumOrd α] [SOrd α] [DecidableEq β] [DatumOrd β] [SOrd β]
theorem listLt_irr : ∀ xs : List α, listLt xs xs = false
  | [] => rfl
  | x :: xs => by rw [listLt, if_pos rfl, listLt_irr xs]
theorem listLt_tr : ∀ {xs ys zs : List α}, listLt xs ys = true → listLt ys zs = true → listLt xs zs = true
  | [], [], _, h, _ => by cases h
  | [], _ :: _, [], _, h => by cases h
  | [], _ :: _, _ :: _, _, _ => rfl
  | _ :: _, [], _, h, _ => by cases h
  | _ :: _, _ :: _, [], _, h => by cases h
  | x :: xs, y :: ys, z :: zs, h1, h2 => by
    rw [listLt] at h1 h2 ⊢
    by_cases e1 : x = y
    · subst e1
      rw [if_pos rfl] at h1
      by_cases e2 : x = z
      · subst e2
        rw [if_pos rfl] at h2 ⊢
        exact listLt_tr h1 h2
      · rw [if_neg e2] at h2 ⊢
        exact h2
    · rw [if_neg e1] at h1
      by_cases e2 : y = z
      · subst e2
        rw [if_neg e1]; exact h1
      · rw [if_neg e2] at h2
        have h3 := SOrd.tr h1 h2
        have : x ≠ z := fun e => by
          subst e
          rw [SOrd.irr] at h3
          cases h3
        rw [if_neg this]; exact h3
theorem listLt_tri : ∀ {xs ys : List α}, listLt xs ys = false → listLt ys xs = false → xs = ys
  | [], [], _, _ => rfl
  | [], _ :: _, h, _ => by cases h
  | _ :: _, [], _, h => by cases h
  | x :: xs, y :: ys, h1, h2 => by
    rw [listLt] at h1 h2
    by_cases e : x = y
    · subst e
      rw [if_pos rfl] at h1 h2
      rw [listLt_tri h1 h2]
    · rw [if_neg e] at h1
      rw [if_neg (Ne.symm e)] at h2
      exact absurd (SOrd.tri h1 h2) e
instance : SOrd (List α) where
  irr := listLt_irr
  tr := listLt_tr
  tri := listLt_tri
instance : SOrd (Tup α) where
  irr a := listLt_irr a.items
  tr := fun {a b c} h1 h2 => listLt_tr (xs := a.items) (ys := b.items) (zs := c.items) h1 h2
  tri := fun {a b} h1 h2 => by
    have := listLt_tri (xs := a.items) (ys := b.items) h1 h2
    cases a; cases b; simp at this; rw [this]
theorem pair_lt (p q : α × β) : DatumOrd.lt p q = if p.1 = q.1 then DatumOrd.lt p.2 q.2 else DatumOrd.lt p.1 q.1 := rfl
instance : SOrd (α × β) where
  irr a := by rw [pair_lt, if_pos rfl]; exact SOrd.irr _
  tr := fun {a b c} h1 h2 => by
    rw [pair_lt] at *
    by_cases e1 : a.1 = b.1
    · rw [if_pos e1] at h1
      by_cases e2 : b.1 = c.1
      · rw [if_pos e2] at h2
        rw [if_pos (e1.trans e2)]; exact SOrd.tr h1 h2
      · rw [if_neg e2] at h2
        rw [if_neg (e1 ▸ e2), e1]; exact h2
    · rw [if_neg e1] at h1
      by_cases e2 : b.1 = c.1
      · rw [if_neg (e2 ▸ e1), ← e2]; exact h1
      · rw [if_neg e2] at h2
        have h3 := SOrd.tr h1 h2
        have : a.1 ≠ c.1 := fun e => by rw [e, SOrd.irr] at h3; cases h3
        rw [if_neg this]; exact h3
  tri := fun {a b} h1 h2 => by
    rw [pair_lt] at *
    by_cases e : a.1 = b.1
    · rw [if_pos e] at h1
      rw [if_pos e.symm] at h2
      exact Prod.ext e (SOrd.tri h1 h2)
    · rw [if_neg e] at h1
      rw [if_neg (Ne.symm e)] at h2
      exact absurd (SOrd.tri h1 h2) e
abbrev lO (a b : α) : Prop := DatumOrd.lt a b = true
theorem lO_irr (a : α) : ¬ lO a a := by unfold lO; rw [SOrd.irr]; decide
theorem lO_ne {a b : α} (h : lO a b) : a ≠ b := fun e => lO_irr b (e ▸ h)
theorem lO_asymm {a b : α} (h : lO a b) : ¬ lO b a := fun h2 => lO_irr a (SOrd.tr h h2)
theorem lO_tri (a b : α) : lO a b ∨ a = b ∨ lO b a := by
  cases h1 : DatumOrd.lt a b with
  | true => exact .inl h1
  | false =>
    cases h2 : DatumOrd.lt b a with
    | true => exact .inr (.inr h2)
    | false => exact .inr (.inl (SOrd.tri h1 h2))
theorem leO_iff {a b : α} : leO a b = true ↔ lO a b ∨ a = b := by
  unfold leO
  rw [Bool.not_eq_true']
  constructor
  · intro h
    rcases lO_tri a b with c | c | c
    · exact .inl c
    · exact .inr c
    · unfold lO at c; rw [h] at c; cases c
  · rintro (h | rfl)
    · cases c : DatumOrd.lt b a with
      | false => rfl
      | true => exact absurd c (lO_asymm h)
    · exact SOrd.irr a
theorem leO_trT {a b c : α} (h1 : leO a b = true) (h2 : leO b c = true) : leO a c = true := by
  rw [leO_iff] at *
  rcases h1 with h1 | rfl
  · rcases h2 with h2 | rfl
    · exact .inl (SOrd.tr h1 h2)
    · exact .inl h1
  · exact h2
theorem leO_tot (a b : α) : (leO a b || leO b a) = true := by
  rw [Bool.or_eq_true, leO_iff, leO_iff]
  rcases lO_tri a b with c | c | c
  · exact .inl (.inl c)
  · exact .inl (.inr c)
  · exact .inr (.inl c)
def srt (xs : List α) : List α := xs.mergeSort leO
theorem srt_perm (xs : List α) : (srt xs).Perm xs := List.mergeSort_perm ..
theorem srt_mem {xs : List α} {a : α} : a ∈ srt xs ↔ a ∈ xs := (srt_perm xs).mem_iff
@[simp] theorem srt_len (xs : List α) : (srt xs).length = xs.length := (srt_perm xs).length_eq
theorem srt_le (xs : List α) : (srt xs).Pairwise fun a b => leO a b = true := List.pairwise_mergeSort (le := leO) (fun a b c h1 h2 => leO_trT h1 h2) (fun a b => leO_tot a b) xs
theorem srt_lt {xs : List α} (h : xs.Nodup) : (srt xs).Pairwise lO := by
  have h1 := srt_le xs
  have h2 : (srt xs).Nodup := (srt_perm xs).nodup_iff.mpr h
  refine (h1.and h2).imp fun {a b} ⟨h3, h4⟩ => ?_
  rcases leO_iff.mp h3 with c | c
  · exact c
  · exact absurd c h4
theorem lt_nodup {xs : List α} (h : xs.Pairwise lO) : xs.Nodup := h.imp fun h => lO_ne h
theorem lt_unique : ∀ {xs ys : List α}, xs.Pairwise lO → ys.Pairwise lO → (∀ a, a ∈ xs ↔ a ∈ ys) → xs = ys
  | [], [], _, _, _ => rfl
  | [], y :: ys, _, _, h => by have := (h y).mpr (List.mem_cons_self ..); cases this
  | x :: xs, [], _, _, h => by have := (h x).mp (List.mem_cons_self ..); cases this
  | x :: xs, y :: ys, h1, h2, h => by
    rw [List.pairwise_cons] at h1 h2
    have e : x = y := by
      rcases List.mem_cons.mp ((h x).mp (List.mem_cons_self ..)) with c | c
      · exact c
      · rcases List.mem_cons.mp ((h y).mpr (List.mem_cons_self ..)) with d | d
        · exact d.symm
        · exact absurd (h1.1 y d) (lO_asymm (h2.1 x c))
    subst e
    congr 1
    refine lt_unique h1.2 h2.2 fun a => ⟨fun ha => ?_, fun ha => ?_⟩
    · rcases List.mem_cons.mp ((h a).mp (List.mem_cons_of_mem _ ha)) with c | c
      · subst c; exact absurd (h1.1 a ha) (lO_irr a)
      · exact c
    · rcases List.mem_cons.mp ((h a).mpr (List.mem_cons_of_mem _ ha)) with c | c
      · subst c; exact absurd (h2.1 a ha) (lO_irr a)
      · exact c
theorem srt_id {xs : List α} (h : xs.Pairwise lO) : srt xs = xs := lt_unique (srt_lt (lt_nodup h)) h fun a => srt_mem
theorem srt_of {xs ys : List α} (h : ys.Pairwise lO) (hn : xs.Nodup) (hm : ∀ a, a ∈ xs ↔ a ∈ ys) : srt xs = ys := lt_unique (srt_lt hn) h fun a => srt_mem.trans (hm a)
def ddp : List α → List α
  | [] => []
  | x :: r => if x ∈ r then ddp r else x :: ddp r
theorem ddp_mem {a : α} : ∀ {xs : List α}, a ∈ ddp xs ↔ a ∈ xs
  | [] => Iff.rfl
  | x :: r => by
    rw [ddp]
    split
    · rename_i h
      rw [ddp_mem, List.mem_cons]
      exact ⟨.inr, fun z => z.elim (fun e => e ▸ h) id⟩
    · rw [List.mem_cons, List.mem_cons, ddp_mem]
theorem ddp_nodup : ∀ xs : List α, (ddp xs).Nodup
  | [] => List.nodup_nil
  | x :: r => by
    rw [ddp]
    split
    · exact ddp_nodup r
    · rename_i h
      exact List.nodup_cons.mpr ⟨fun z => h (ddp_mem.mp z), ddp_nodup r⟩
theorem ddp_len : ∀ xs : List α, (ddp xs).length ≤ xs.length
  | [] => Nat.le_refl _
  | x :: r => by
    have := ddp_len r
    rw [ddp]
    split <;> simp <;> omega
/-- sorted(set(xs)) -/
def sset (xs : List α) : List α := srt (ddp xs)
theorem sset_lt (xs : List α) : (sset xs).Pairwise lO := srt_lt (ddp_nodup xs)
theorem sset_mem {xs : List α} {a : α} : a ∈ sset xs ↔ a ∈ xs := srt_mem.trans ddp_mem
theorem sset_len (xs : List α) : (sset xs).length ≤ xs.length := by unfold sset; rw [srt_len]; exact ddp_len xs
theorem sset_id {xs : List α} (h : xs.Pairwise lO) : sset xs = xs := lt_unique (sset_lt xs) h fun a => sset_mem
theorem sset_of {xs ys : List α} (h : ys.Pairwise lO) (hm : ∀ a, a ∈ xs ↔ a ∈ ys) : sset xs = ys := lt_unique (sset_lt xs) h fun a => sset_mem.trans (hm a)
theorem tD_inj {a b : α} (h : tD a = tD b) : a = b := by
  have h1 := PySem.W.Datum.eqv a a
  have h2 := PySem.W.Datum.eqv a b
  have h : (PySem.W.Datum.toD a : PyData) = PySem.W.Datum.toD b := h
  rw [← h, h1] at h2
  simpa using h2.symm
theorem back_map {β : Type} (t : β → PyData) (xs : List β) : ∀ ds : List PyData, (∀ d ∈ ds, d ∈ xs.map t) → ∃ ys : List β, ds = ys.map t ∧ ∀ y ∈ ys, y ∈ xs
  | [], _ => ⟨[], rfl, fun _ h => by cases h⟩
  | d :: r, h => by
    obtain ⟨y, hy, rfl⟩ := List.mem_map.mp (h d (List.mem_cons_self ..))
    obtain ⟨ys, e, h2⟩ := back_map t xs r fun z hz => h z (List.mem_cons_of_mem _ hz)
    exact ⟨y :: ys, by rw [e]; rfl, fun z hz => (List.mem_cons.mp hz).elim (fun e => e ▸ hy) (h2 z)⟩
theorem uniq_back {xs : List α} {ds : List PyData} (u : Uniq (xs.map tD) ds) : ∃ ys : List α, ds = ys.map tD ∧ ys.Nodup ∧ ∀ a, a ∈ ys ↔ a ∈ xs := by
  obtain ⟨ys, e, h⟩ := back_map tD xs ds fun d hd => (u.2.1 d).mp hd
  subst e
  refine ⟨ys, rfl, ?_, fun a => ⟨h a, fun ha => ?_⟩⟩
  · have := u.1
    rw [List.Nodup, List.pairwise_map] at this
    exact this.imp fun h e => h (by rw [e])
  · obtain ⟨b, hb, e⟩ := List.mem_map.mp ((u.2.1 (tD a)).mpr (List.mem_map.mpr ⟨a, ha, rfl⟩))
    rw [← tD_inj e]; exact hb
theorem sort_uniq {xs : List α} {ds : List PyData} (u : Uniq (xs.map tD) ds) : sortD ds = (sset xs).map tD := by
  obtain ⟨ys, rfl, hn, hm⟩ := uniq_back u
  rw [sortD_D]
  exact congrArg _ (lt_unique (srt_lt hn) (sset_lt xs) fun a => srt_mem.trans ((hm a).trans sset_mem.symm))
theorem len_uniq {xs : List α} {ds : List PyData} (u : Uniq (xs.map tD) ds) : ds.length = (ddp xs).length := by
  obtain ⟨ys, rfl, hn, hm⟩ := uniq_back u
  rw [List.length_map]
  exact ((List.perm_ext_iff_of_nodup hn (ddp_nodup xs)).mpr fun a => (hm a).trans ddp_mem.symm).length_eq
theorem ddp_all {xs : List α} : (ddp xs).length = xs.length ↔ xs.Nodup := by
  constructor
  · intro h
    induction xs with
    | nil => exact List.nodup_nil
    | cons x r ih =>
      have hl := ddp_len r
      rw [ddp] at h
      split at h
      · rw [List.length_cons] at h; omega
      · rename_i hx
        rw [List.length_cons, List.length_cons] at h
        exact List.nodup_cons.mpr ⟨hx, ih (by omega)⟩
  · intro h
    exact ((List.perm_ext_iff_of_nodup (ddp_nodup xs) h).mpr fun a => ddp_mem).length_eq
theorem run_sortset {xs : List α} {QL : List PyData → Prop} (hs : SetD (xs.map tD)) (ho : ∀ ys : List α, sortable (ys.map tD)) (q : QL ((sset xs).map tD)) : (fSortSet [.list (xs.map tD)]).run QL ∧ (fSortSet [.tuple (xs.map tD)]).run QL := by
  have h : (SetD (xs.map tD) ∧ ∀ ds', Uniq (xs.map tD) ds' → sortable ds') ∧ ∀ ds', Uniq (xs.map tD) ds' → QL (sortD ds') := by
    refine ⟨⟨hs, fun ds' u => ?_⟩, fun ds' u => ?_⟩
    · obtain ⟨ys, rfl, _, _⟩ := uniq_back u
      exact ho ys
    · rw [sort_uniq u]; exact q
  exact ⟨h, h⟩
theorem run_lenset {xs : List α} {Q : PyData → Prop} (hs : SetD (xs.map tD)) (q : Q (.int (ddp xs).length)) : (fLenSet [.list (xs.map tD)]).run Q ∧ (fLenSet [.tuple (xs.map tD)]).run Q := by
  have h : SetD (xs.map tD) ∧ ∀ ds', Uniq (xs.map tD) ds' → Q (.int ds'.length) := ⟨hs, fun ds' u => by rw [len_uniq u]; exact q⟩
  exact ⟨h, h⟩
end
theorem setD_str (xs lim : List Str) (h : lim.length + 1 < 4000) (hs : ∀ x ∈ xs, x ∈ lim) : SetD (xs.map PyData.str) := by
  have e : xs.map PyData.str = (xs.map (Sum.inr : Str → L2.Key)).map kD := by rw [List.map_map]; rfl
  rw [e]
  refine SetD.keys _ (lim.map Sum.inr) (by simpa using h) fun k hk => ?_
  obtain ⟨x, hx, rfl⟩ := List.mem_map.mp hk
  exact List.mem_map.mpr ⟨x, hs x hx, rfl⟩
theorem setD_int (xs lim : List Int) (h : lim.length + 1 < 4000) (hs : ∀ x ∈ xs, x ∈ lim) : SetD (xs.map PyData.int) := by
  have e : xs.map PyData.int = (xs.map (Sum.inl : Int → L2.Key)).map kD := by rw [List.map_map]; rfl
  rw [e]
  refine SetD.keys _ (lim.map Sum.inl) (by simpa using h) fun k hk => ?_
  obtain ⟨x, hx, rfl⟩ := List.mem_map.mp hk
  exact List.mem_map.mpr ⟨x, hs x hx, rfl⟩
abbrev tupS (xs : List Str) : PyData := .tuple (xs.map .str)
theorem setD_tup (L lim : List (List Str)) (h : lim.length + 1 < 4000) (hs : ∀ x ∈ L, x ∈ lim) : SetD (L.map tupS) := by
  have e : L.map tupS = (L.map fun s => s.map (Sum.inr : Str → L2.Key)).map tupD := by
    rw [List.map_map]
    refine List.map_congr_left fun s _ => ?_
    show PyData.tuple _ = PyData.tuple _
    rw [List.map_map]; rfl
  rw [e]
  refine SetD.tups _ (lim.map fun s => s.map Sum.inr) (by simpa using h) fun k hk => ?_
  obtain ⟨x, hx, rfl⟩ := List.mem_map.mp hk
  exact List.mem_map.mpr ⟨x, hs x hx, rfl⟩
/-! rows of texts: tuples, ordered -/
def ssetT (L : List (List Str)) : List (List Str) := (sset (L.map PySem.W.Tup.mk)).map (·.items)
def srtT (L : List (List Str)) : List (List Str) := (srt (L.map PySem.W.Tup.mk)).map (·.items)
/-- in order as tuples -/
abbrev ltT (a b : List Str) : Prop := listLt a b = true
theorem items_mk (L : List (List Str)) : (L.map PySem.W.Tup.mk).map (·.items) = L := by rw [List.map_map]; exact List.map_id _
theorem map_tup (L : List (List Str)) : L.map tupS = (L.map PySem.W.Tup.mk).map tD := by rw [List.map_map]; rfl
theorem items_tD (L : List (PySem.W.Tup Str)) : L.map tD = (L.map (·.items)).map tupS := by rw [List.map_map]; rfl
theorem pw_items {L : List (PySem.W.Tup Str)} (h : L.Pairwise lO) : (L.map (·.items)).Pairwise ltT := List.pairwise_map.mpr h
theorem pw_mk {L : List (List Str)} (h : L.Pairwise ltT) : (L.map PySem.W.Tup.mk).Pairwise lO := List.pairwise_map.mpr h
theorem ssetT_lt (L : List (List Str)) : (ssetT L).Pairwise ltT := pw_items (sset_lt _)
theorem mk_mem {L : List (List Str)} {s : List Str} : PySem.W.Tup.mk s ∈ L.map PySem.W.Tup.mk ↔ s ∈ L := by
  rw [List.mem_map]
  exact ⟨fun ⟨t, h, e⟩ => by cases e; exact h, fun h => ⟨s, h, rfl⟩⟩
theorem items_mem {L : List (PySem.W.Tup Str)} {s : List Str} : s ∈ L.map (·.items) ↔ PySem.W.Tup.mk s ∈ L := by
  rw [List.mem_map]
  exact ⟨fun ⟨t, h, e⟩ => by cases t; subst e; exact h, fun h => ⟨_, h, rfl⟩⟩
theorem ssetT_mem {L : List (List Str)} {s : List Str} : s ∈ ssetT L ↔ s ∈ L := by
  unfold ssetT
  rw [items_mem, sset_mem, mk_mem]
theorem srtT_mem {L : List (List Str)} {s : List Str} : s ∈ srtT L ↔ s ∈ L := by
  unfold srtT
  rw [items_mem, srt_mem, mk_mem]
@[simp] theorem srtT_len (L : List (List Str)) : (srtT L).length = L.length := by unfold srtT; simp
theorem ssetT_len (L : List (List Str)) : (ssetT L).length ≤ L.length := by
  unfold ssetT
  rw [List.length_map]
  exact Nat.le_trans (sset_len _) (by simp)
theorem srtT_id {L : List (List Str)} (h : L.Pairwise ltT) : srtT L = L := by
  unfold srtT
  rw [srt_id (pw_mk h), items_mk]
theorem ssetT_id {L : List (List Str)} (h : L.Pairwise ltT) : ssetT L = L := by
  unfold ssetT
  rw [sset_id (pw_mk h), items_mk]
theorem ltT_unique {L M : List (List Str)} (h1 : L.Pairwise ltT) (h2 : M.Pairwise ltT) (h : ∀ s, s ∈ L ↔ s ∈ M) : L = M := by
  have := lt_unique (pw_mk h1) (pw_mk h2) fun t => by cases t; rw [mk_mem, mk_mem]; exact h _
  have := congrArg (List.map (·.items)) this
  rwa [items_mk, items_mk] at this
theorem ltT_nodup {L : List (List Str)} (h : L.Pairwise ltT) : L.Nodup := h.imp fun h e => by
  subst e
  have := listLt_irr (α := Str)
  unfold ltT at h
  rw [this] at h; cases h
theorem sortD_T (L : List (List Str)) : sortD (L.map tupS) = (srtT L).map tupS := by
  rw [map_tup, sortD_D]
  show (srt _).map tD = _
  rw [items_tD]; rfl
theorem sortable_T (L : List (List Str)) : sortable (L.map tupS) := by
  rw [map_tup]
  exact sortable_D (α := PySem.W.Tup Str) (by decide) (.inl fun a => ⟨_, rfl⟩) _
theorem run_sortsetT {L lim : List (List Str)} {QL : List PyData → Prop} (h : lim.length + 1 < 4000) (hs : ∀ x ∈ L, x ∈ lim) (q : QL ((ssetT L).map tupS)) : (fSortSet [.list (L.map tupS)]).run QL ∧ (fSortSet [.tuple (L.map tupS)]).run QL := by
  have h1 := setD_tup L lim h hs
  rw [map_tup] at h1 ⊢
  refine run_sortset h1 (fun ys => sortable_D (α := PySem.W.Tup Str) (by decide) (.inl fun a => ⟨_, rfl⟩) _) ?_
  rw [items_tD]; exact q
theorem run_lensetT {L lim : List (List Str)} {Q : PyData → Prop} (h : lim.length + 1 < 4000) (hs : ∀ x ∈ L, x ∈ lim) (q : Q (.int (ddp L).length)) : (fLenSet [.list (L.map tupS)]).run Q ∧ (fLenSet [.tuple (L.map tupS)]).run Q := by
  have h1 := setD_tup L lim h hs
  rw [map_tup] at h1 ⊢
  refine run_lenset h1 ?_
  have e : (ddp (L.map PySem.W.Tup.mk)).length = (ddp L).length := by
    clear h1 hs q
    induction L with
    | nil => rfl
    | cons x r ih =>
      rw [List.map_cons, ddp, ddp]
      by_cases c : x ∈ r
      · rw [if_pos (mk_mem.mpr c), if_pos c, ih]
      · rw [if_neg (fun z => c (mk_mem.mp z)), if_neg c, List.length_cons, List.length_cons, ih]
  rw [e]; exact q
theorem run_sortsetS {xs lim : List Str} {QL : List PyData → Prop} (h : lim.length + 1 < 4000) (hs : ∀ x ∈ xs, x ∈ lim) (q : QL ((sset xs).map .str)) : (fSortSet [.list (xs.map .str)]).run QL ∧ (fSortSet [.tuple (xs.map .str)]).run QL :=
  run_sortset (α := Str) (setD_str xs lim h hs) (fun ys => sortable_s ys) q
theorem run_lensetS {xs lim : List Str} {Q : PyData → Prop} (h : lim.length + 1 < 4000) (hs : ∀ x ∈ xs, x ∈ lim) (q : Q (.int (ddp xs).length)) : (fLenSet [.list (xs.map .str)]).run Q ∧ (fLenSet [.tuple (xs.map .str)]).run Q :=
  run_lenset (α := Str) (setD_str xs lim h hs) q
theorem run_sortsetI {xs lim : List Int} {QL : List PyData → Prop} (h : lim.length + 1 < 4000) (hs : ∀ x ∈ xs, x ∈ lim) (q : QL ((sset xs).map .int)) : (fSortSet [.list (xs.map .int)]).run QL ∧ (fSortSet [.tuple (xs.map .int)]).run QL :=
  run_sortset (α := Int) (setD_int xs lim h hs) (fun ys => sortable_i ys) q
theorem sortD_S (xs : List Str) : sortD (xs.map .str) = (srt xs).map .str := sortD_D (α := Str) xs
end Z
namespace Z
open PySem PySem.W
/-! ### small plain facts -/
theorem cutS_lo (A : Str) (n : Nat) : (L2.cutS A none (some (n : Int))).cps.toList = A.cps.toList.take n := by
  unfold L2.cutS
  rw [HT.sIx_none, HT.sIx_nat]
  simp only [Nat.sub_zero, List.drop_zero]
  show A.cps.toList.take (min n A.length) = _
  rw [List.take_eq_take_iff]
  show min (min n A.cps.size) A.cps.toList.length = min n A.cps.toList.length
  rw [Array.length_toList]; omega
theorem cutS_hi (A : Str) (n : Nat) : (L2.cutS A (some (n : Int)) none).cps.toList = A.cps.toList.drop n := by
  unfold L2.cutS
  rw [HT.sIx_none, HT.sIx_nat]
  show (A.cps.toList.drop (min n A.cps.size)).take (A.cps.size - min n A.cps.size) = _
  have hl : A.cps.toList.length = A.cps.size := Array.length_toList
  rcases Nat.le_total n A.cps.size with h | h
  · rw [Nat.min_eq_left h, List.take_of_length_le (by rw [List.length_drop, hl]; exact Nat.le_refl _)]
  · rw [Nat.min_eq_right h, List.drop_of_length_le (by omega), List.drop_of_length_le (by omega), List.take_nil]
/-- a sign put in at a place -/
def insAt (A : Str) (n c : Nat) : Str := L2.cutS A none (some (n : Int)) ++ ⟨#[c]⟩ ++ L2.cutS A (some (n : Int)) none
theorem insAt_list (A : Str) (n c : Nat) : (insAt A n c).cps.toList = A.cps.toList.take n ++ c :: A.cps.toList.drop n := by
  unfold insAt
  rw [Str.cps_append, Str.cps_append]
  simp [cutS_lo, cutS_hi]
theorem insAt_inj {A B : Str} {n c d : Nat} (h : insAt A n c = insAt B n d) : c = d := by
  have h1 := congrArg (fun z : Str => z.cps.toList) h
  simp only [insAt_list] at h1
  have h2 := congrArg List.length h1
  simp only [List.length_append, List.length_take, List.length_cons, List.length_drop] at h2
  have h3 := (List.append_inj h1 (by simp only [List.length_take]; omega)).2
  injection h3
theorem insAt_len (A : Str) (n c : Nat) : (insAt A n c).length = A.length + 1 := by
  have h := congrArg List.length (insAt_list A n c)
  rw [Array.length_toList] at h
  simp only [List.length_append, List.length_take, List.length_cons, List.length_drop, Array.length_toList] at h
  show (insAt A n c).cps.size = A.cps.size + 1
  omega
theorem cutS_len (A : Str) (lo hi : Option Int) : (L2.cutS A lo hi).length ≤ A.length := by
  unfold L2.cutS Str.length
  simp
  omega
theorem len_add (a b : Str) : (a ++ b).length = a.length + b.length := Str.length_append ..
theorem letter_at {x : Int} (h0 : 0 ≤ x) (h1 : x < 26) : L2.atI (Str.ofString "abcdefghijklmnopqrstuvwxyz").cps.toList x = some (97 + x.toNat) := by
  have key : ∀ i : Nat, i < 26 → (Str.ofString "abcdefghijklmnopqrstuvwxyz").cps.toList[i]? = some (97 + i) := by decide +kernel
  obtain ⟨k, rfl⟩ := Int.eq_ofNat_of_zero_le h0
  rw [atI_nat, key k (by omega)]; simp
theorem letters_size : (Str.ofString "abcdefghijklmnopqrstuvwxyz").length ≤ 16777216 := by decide +kernel
theorem rgD_len (lo : Int) (n : Nat) : (rgD lo n).length = n := by simp [rgD]
theorem rg_nat (m : Nat) : rgD 0 m = (List.range m).map fun i : Nat => PyData.int i := by
  unfold rgD
  apply List.map_congr_left
  intro i _
  congr 1
  omega
theorem rg_nat2 (a m : Nat) : rgD (a : Int) m = (List.range' a m).map fun i : Nat => PyData.int i := by
  unfold rgD
  rw [List.range'_eq_map_range, List.map_map]
  apply List.map_congr_left
  intro i _
  simp
theorem nodup_inj {α β : Type} {f : α → β} : ∀ {l : List α}, l.Nodup → (∀ a ∈ l, ∀ b ∈ l, f a = f b → a = b) → (l.map f).Nodup
  | [], _, _ => List.nodup_nil
  | x :: r, h, hi => by
    rw [List.nodup_cons] at h
    rw [List.map_cons, List.nodup_cons]
    refine ⟨fun hm => ?_, nodup_inj h.2 fun a ha b hb => hi a (List.mem_cons_of_mem _ ha) b (List.mem_cons_of_mem _ hb)⟩
    obtain ⟨y, hy, e⟩ := List.mem_map.mp hm
    exact h.1 (hi y (List.mem_cons_of_mem _ hy) x (List.mem_cons_self ..) e ▸ hy)
theorem erase_map' {α β : Type} (f : α → β) : ∀ (xs : List α) (j : Nat), (xs.map f).eraseIdx j = (xs.eraseIdx j).map f
  | [], _ => rfl
  | _ :: _, 0 => rfl
  | x :: r, j + 1 => by simp [List.eraseIdx_cons_succ, erase_map' f r j]
theorem erase_perm {α : Type} : ∀ (xs : List α) (j : Nat) (x : α), xs[j]? = some x → (x :: xs.eraseIdx j).Perm xs
  | [], _, _, h => by simp at h
  | y :: r, 0, x, h => by simp at h; subst h; exact .refl _
  | y :: r, j + 1, x, h => by
    rw [List.eraseIdx_cons_succ]
    exact (List.Perm.swap y x _).trans ((erase_perm r j x (by simpa using h)).cons y)
abbrev tupSS (L : List (List Str)) : PyData := .tuple (L.map tupS)
theorem at_map {α : Type} {t : α → PyData} {xs : List α} {k : Nat} {x : α} (h : xs[k]? = some x) : L2.atI (xs.map t) (k : Int) = some (t x) := by
  rw [atI_nat, List.getElem?_map, h]; rfl
theorem at_some {α : Type} {t : α → PyData} {xs : List α} {k : Int} (h0 : 0 ≤ k) (h1 : k < xs.length) : ∃ (j : Nat) (x : α), k = j ∧ xs[j]? = some x ∧ L2.atI (xs.map t) k = some (t x) := by
  obtain ⟨j, rfl⟩ := Int.eq_ofNat_of_zero_le h0
  have hj : j < xs.length := by omega
  exact ⟨j, xs[j], rfl, List.getElem?_eq_getElem hj, at_map (List.getElem?_eq_getElem hj)⟩
section
variable {e : Env} {mr : Env → W (List PyData)} {QL : List PyData → Prop}
@[simp] theorem r_mEnum : (mEnum mr e).run QL = (mr e).run fun r => (enumOf r).run QL := rfl
@[simp] theorem enumOf_l (ds : List PyData) : enumOf [.list ds] = pure (enumD 0 ds) := rfl
@[simp] theorem enumOf_t (ds : List PyData) : enumOf [.tuple ds] = pure (enumD 0 ds) := rfl
@[simp] theorem enumD_n (k : Nat) : enumD k [] = [] := rfl
@[simp] theorem enumD_c (k : Nat) (d : PyData) (r : List PyData) : enumD k (d :: r) = .tuple [.int k, d] :: enumD (k + 1) r := rfl
end
theorem fIn_i2 (neg : Bool) (a b c : Int) {Q : PyData → Prop} (q : ∀ r : Bool, Q (.bool r)) : (fIn' neg (.int a) (.tuple [.int b, .int c])).run Q := fIn_Dt (α := Int) (by decide) neg a [b, c] (q _)
@[simp] theorem fInt1_b (b : Bool) : fInt1 [.bool b] = pure (.int (if b then 1 else 0)) := by cases b <;> rfl
@[simp] theorem fInt1_i (z : Int) : fInt1 [.int z] = pure (.int z) := rfl
theorem bit_le (x : Int) : 0 ≤ Builtin.bitAnd x 1 ∧ Builtin.bitAnd x 1 ≤ 1 := by
  rw [PyProof.Rows.bitAnd_m1]; omega
theorem srtS (xs : List Str) : (sortD (xs.map .str)) = (srt xs).map .str := sortD_S xs
theorem cut_to {α : Type} (xs : List α) (m : Nat) : cutL xs none (some (m : Int)) = xs.take m := by
  unfold cutL
  rw [HT.sIx_none, HT.sIx_nat]
  simp
theorem cut_from {α : Type} (xs : List α) (m : Nat) : cutL xs (some (m : Int)) none = xs.drop m := by
  unfold cutL
  rw [HT.sIx_none, HT.sIx_nat]
  rcases Nat.le_total m xs.length with h | h
  · rw [Nat.min_eq_left h, List.take_of_length_le (by rw [List.length_drop]; exact Nat.le_refl _)]
  · rw [Nat.min_eq_right h, List.drop_of_length_le (Nat.le_refl _), List.drop_of_length_le h, List.take_nil]
/-- a collection as it is drawn -/
structure Coll (names : List Str) (L : List (List Str)) : Prop where
  nd : names.Nodup
  ln : names.length ≤ 24
  lt : L.Pairwise ltT
  len : L.length ≤ 128
  six : ∀ s ∈ L, s.length ≤ 6
  srt : ∀ s ∈ L, s.Pairwise lO
  sub : ∀ s ∈ L, ∀ x ∈ s, x ∈ names
end Z
namespace Z
open PySem PySem.W
/-! ### rows of places -/
abbrev zl (p : List Nat) : List Int := p.map fun k : Nat => (k : Int)
abbrev natsD (p : List Nat) : PyData := .list (p.map fun k : Nat => PyData.int k)
theorem natsD_eq (p : List Nat) : natsD p = tD (zl p) := by
  show PyData.list _ = PyData.list _
  rw [List.map_map]; rfl
theorem zl_inj {p q : List Nat} (h : zl p = zl q) : p = q := by
  induction p generalizing q with
  | nil => cases q with
    | nil => rfl
    | cons _ _ => cases h
  | cons a p ih => cases q with
    | nil => cases h
    | cons b q =>
      rw [zl, zl, List.map_cons, List.map_cons] at h
      injection h with h1 h2
      rw [ih h2]
      congr 1
      omega
abbrev lex (p q : List Nat) : Prop := listLt (zl p) (zl q) = true
theorem lex_app {p q : List Nat} (hl : p.length = q.length) (h : lex p q) (a b : List Nat) : lex (p ++ a) (q ++ b) := by
  induction p generalizing q with
  | nil => cases q with
    | nil => cases h
    | cons _ _ => cases hl
  | cons x p ih => cases q with
    | nil => cases hl
    | cons y q =>
      unfold lex zl at *
      rw [List.cons_append, List.cons_append, List.map_cons, List.map_cons, listLt]
      rw [List.map_cons, List.map_cons, listLt] at h
      by_cases c : (x : Int) = y
      · rw [if_pos c] at h ⊢
        exact ih (by simpa using hl) h
      · rw [if_neg c] at h ⊢
        exact h
theorem lex_last {p : List Nat} {a b : Nat} (h : a < b) : lex (p ++ [a]) (p ++ [b]) := by
  induction p with
  | nil =>
    unfold lex zl
    simp only [List.nil_append, List.map_cons, List.map_nil, listLt]
    rw [if_neg (by omega)]
    show decide ((a : Int) < b) = true
    simp; omega
  | cons x p ih =>
    unfold lex zl at *
    rw [List.cons_append, List.cons_append, List.map_cons, List.map_cons, listLt, if_pos rfl]
    exact ih
theorem lex_one {a b : Nat} (h : a < b) : lex [a] [b] := lex_last (p := []) h
/-- first the longer, then in order -/
abbrev keyR (p : List Nat) : Int × List Int := (0 - (p.length : Int), zl p)
theorem keyR_inj {p q : List Nat} (h : keyR p = keyR q) : p = q := zl_inj (congrArg Prod.snd h)
abbrev bet (p q : List Nat) : Prop := lO (keyR p) (keyR q)
theorem bet_iff {p q : List Nat} : bet p q ↔ q.length < p.length ∨ (p.length = q.length ∧ lex p q) := by
  unfold bet lO
  rw [pair_lt]
  by_cases h : p.length = q.length
  · rw [if_pos (by show (0 : Int) - _ = 0 - _; omega)]
    constructor
    · intro h2; exact .inr ⟨h, h2⟩
    · rintro (h2 | h2)
      · omega
      · exact h2.2
  · rw [if_neg (by show ¬ ((0 : Int) - _ = 0 - _); omega)]
    show decide ((0 : Int) - (p.length : Int) < 0 - (q.length : Int)) = true ↔ _
    rw [decide_eq_true_eq]
    constructor
    · intro h2; exact .inl (by omega)
    · rintro (h2 | h2)
      · omega
      · exact absurd h2.1 h
structure Best (F : List Nat → Prop) (r : List Nat) : Prop where
  mem : F r
  all : ∀ p, F p → p = r ∨ bet r p
theorem Best.unique {F : List Nat → Prop} {r s : List Nat} (h1 : Best F r) (h2 : Best F s) : r = s := by
  rcases h1.all s h2.mem with e | e
  · exact e.symm
  · rcases h2.all r h1.mem with e2 | e2
    · exact e2
    · exact absurd e2 (lO_asymm e)
def better (b r : List Nat) : List Nat := if DatumOrd.lt (keyR r) (keyR b) = true then r else b
theorem best_fold {F : List Nat → Prop} : ∀ (rows : List (List Nat)) (b : List Nat) (seen : List (List Nat)), (b ∈ seen ∧ ∀ p ∈ seen, p = b ∨ bet b p) → (rows.foldl better b ∈ seen ++ rows ∧ ∀ p ∈ seen ++ rows, p = rows.foldl better b ∨ bet (rows.foldl better b) p)
  | [], b, seen, h => by simpa using h
  | r :: rows, b, seen, h => by
    rw [List.foldl_cons]
    have e : seen ++ r :: rows = (seen ++ [r]) ++ rows := by simp
    rw [e]
    refine best_fold (F := F) rows (better b r) (seen ++ [r]) ?_
    unfold better
    split
    · rename_i hb
      refine ⟨by simp, fun p hp => ?_⟩
      rcases List.mem_append.mp hp with hp | hp
      · rcases h.2 p hp with rfl | hq
        · exact .inr hb
        · exact .inr (SOrd.tr hb hq)
      · exact .inl (by simpa using hp)
    · rename_i hb
      refine ⟨List.mem_append_left _ h.1, fun p hp => ?_⟩
      rcases List.mem_append.mp hp with hp | hp
      · exact h.2 p hp
      · have : p = r := by simpa using hp
        subst this
        rcases lO_tri (keyR p) (keyR b) with c | c | c
        · exact absurd c hb
        · exact .inl (keyR_inj c)
        · exact .inr c
/-- what two sets both have -/
def meetL (a b : List Str) : List Str := a.filter fun x => decide (x ∈ b)
theorem meetL_mem {a b : List Str} {x : Str} : x ∈ meetL a b ↔ x ∈ a ∧ x ∈ b := by unfold meetL; simp
def sAt (L : List (List Str)) (k : Nat) : List Str := L.getD k []
abbrev Row := List Nat × List Str
abbrev rowD (r : Row) : PyData := .tuple [natsD r.1, tupS r.2]
def fitB (L : List (List Str)) (r : Row) (m : Nat) : Bool := r.1.all fun at_ => decide (meetL (sAt L at_) (sAt L m) = r.2)
def lastN (p : List Nat) : Nat := p.getLast?.getD 0
def kidsR (L : List (List Str)) (r : Row) : List Row := ((List.range' (lastN r.1 + 1) (L.length - (lastN r.1 + 1))).filter (fitB L r)).map fun m => (r.1 ++ [m], r.2)
def grownL (L : List (List Str)) (rows : List Row) : List Row := rows.flatMap (kidsR L)
theorem kids_mem {L : List (List Str)} {r q : Row} : q ∈ kidsR L r ↔ ∃ m, lastN r.1 < m ∧ m < L.length ∧ fitB L r m = true ∧ q = (r.1 ++ [m], r.2) := by
  unfold kidsR
  rw [List.mem_map]
  constructor
  · rintro ⟨m, hm, rfl⟩
    obtain ⟨h1, h2⟩ := List.mem_filter.mp hm
    have := List.mem_range'_1.mp h1
    exact ⟨m, by omega, by omega, h2, rfl⟩
  · rintro ⟨m, h1, h2, h3, rfl⟩
    exact ⟨m, List.mem_filter.mpr ⟨List.mem_range'_1.mpr (by omega), h3⟩, rfl⟩
theorem grown_mem {L : List (List Str)} {rows : List Row} {q : Row} : q ∈ grownL L rows ↔ ∃ r ∈ rows, ∃ m, lastN r.1 < m ∧ m < L.length ∧ fitB L r m = true ∧ q = (r.1 ++ [m], r.2) := by
  unfold grownL
  rw [List.mem_flatMap]
  constructor
  · rintro ⟨r, h1, h2⟩; exact ⟨r, h1, kids_mem.mp h2⟩
  · rintro ⟨r, h1, h2⟩; exact ⟨r, h1, kids_mem.mpr h2⟩
/-- the weight of a row: how many rows can still grow out of it -/
def wt (n : Nat) (r : Row) : Nat := 2 ^ (n - (lastN r.1 + 1))
def wts (n : Nat) (rows : List Row) : Nat := (rows.map (wt n)).sum
theorem wts_len (n : Nat) : ∀ rows : List Row, rows.length ≤ wts n rows
  | [] => Nat.zero_le _
  | r :: rows => by
    have := wts_len n rows
    have : 0 < wt n r := Nat.two_pow_pos _
    unfold wts at *
    rw [List.map_cons, List.sum_cons, List.length_cons]; omega
theorem last_app (p : List Nat) (m : Nat) : lastN (p ++ [m]) = m := by unfold lastN; simp
theorem wts_app (n : Nat) (a b : List Row) : wts n (a ++ b) = wts n a + wts n b := by unfold wts; simp
theorem kids_wts (L : List (List Str)) (r : Row) : wts L.length (kidsR L r) ≤ wt L.length r := by
  unfold kidsR wt
  have key : ∀ (k a : Nat), a + k = L.length → wts L.length (((List.range' a k).filter (fitB L r)).map fun m => (r.1 ++ [m], r.2)) + 1 ≤ 2 ^ k := by
    intro k
    induction k with
    | zero => intro a _; simp [wts]
    | succ k ih =>
      intro a h
      have h1 := ih (a + 1) (by omega)
      rw [List.range'_succ, Nat.pow_succ]
      have e : 2 ^ (L.length - (a + 1)) = 2 ^ k := by congr 1; omega
      by_cases c : fitB L r a = true
      · rw [List.filter_cons_of_pos c, List.map_cons]
        unfold wts at *
        rw [List.map_cons, List.sum_cons]
        have : wt L.length (r.1 ++ [a], r.2) = 2 ^ k := by unfold wt; rw [last_app]; exact e
        omega
      · rw [List.filter_cons_of_neg c]
        have := Nat.two_pow_pos k
        omega
  rcases Nat.lt_or_ge (lastN r.1 + 1) L.length with h | h
  · have := key (L.length - (lastN r.1 + 1)) (lastN r.1 + 1) (by omega)
    omega
  · have e : L.length - (lastN r.1 + 1) = 0 := by omega
    rw [e]
    simp [wts]
theorem grown_wts (L : List (List Str)) : ∀ rows : List Row, wts L.length (grownL L rows) ≤ wts L.length rows
  | [] => Nat.le_refl _
  | r :: rows => by
    have h1 := grown_wts L rows
    have h2 := kids_wts L r
    unfold grownL at *
    rw [List.flatMap_cons, wts_app]
    unfold wts at *
    rw [List.map_cons, List.sum_cons]; omega
/-- rows of one length, in order -/
def InLex (k : Nat) (rows : List Row) : Prop := rows.Pairwise (fun a b => lex a.1 b.1) ∧ ∀ r ∈ rows, r.1.length = k
theorem grown_lex {L : List (List Str)} {k : Nat} {rows : List Row} (h : InLex k rows) : InLex (k + 1) (grownL L rows) := by
  refine ⟨?_, fun q hq => ?_⟩
  · unfold grownL
    rw [List.pairwise_flatMap]
    refine ⟨fun r hr => ?_, ?_⟩
    · unfold kidsR
      rw [List.pairwise_map]
      refine List.Pairwise.filter _ (List.Pairwise.imp (fun {a b} hab => ?_) (List.pairwise_lt_range' (s := lastN r.1 + 1) (n := L.length - (lastN r.1 + 1)) (step := 1)))
      exact lex_last hab
    · refine List.Pairwise.imp_of_mem (fun {a b} ha hb hab => ?_) h.1
      intro x hx y hy
      obtain ⟨m, _, _, _, rfl⟩ := kids_mem.mp hx
      obtain ⟨m', _, _, _, rfl⟩ := kids_mem.mp hy
      exact lex_app ((h.2 a ha).trans (h.2 b hb).symm) hab _ _
  · obtain ⟨r, hr, m, _, _, _, rfl⟩ := grown_mem.mp hq
    simp [h.2 r hr]
theorem atI_last {α : Type} (xs : List α) : L2.atI xs (-1) = xs.getLast? := by
  unfold L2.atI L2.ixN
  rw [if_neg (by decide)]
  cases xs with
  | nil => rfl
  | cons x r =>
    rw [List.getLast?_eq_getElem?, if_pos (by simp; omega)]
    have h1 : ((-1 : Int) + ((x :: r).length : Int)).toNat = (x :: r).length - 1 := by simp; omega
    show (x :: r)[((-1 : Int) + ((x :: r).length : Int)).toNat]? = _
    rw [h1]
end Z
namespace Z
open PySem PySem.W
/-! ### flowers as rows of places -/
theorem lastN_get {p : List Nat} (h : p ≠ []) : lastN p = p.getLast h := by unfold lastN; rw [List.getLast?_eq_some_getLast h]; rfl
theorem last_max' {p : List Nat} (h : p.Pairwise (fun a b => a < b)) : ∀ a ∈ p, a ≤ lastN p := by
  intro a ha
  have hne : p ≠ [] := fun e => by rw [e] at ha; cases ha
  have e := List.dropLast_concat_getLast hne
  rw [lastN_get hne]
  rw [← e] at ha h
  rcases List.mem_append.mp ha with h1 | h1
  · exact Nat.le_of_lt ((List.pairwise_append.mp h).2.2 a h1 _ (by simp))
  · have : a = p.getLast hne := by simpa using h1
    omega
theorem inc_len' {n : Nat} {p : List Nat} (h1 : p.Pairwise (fun a b => a < b)) (h2 : ∀ k ∈ p, k < n) : p.length ≤ n := by
  have := ZT.len_sub p (List.range n) (h1.imp fun h => Nat.ne_of_lt h) fun x hx => List.mem_range.mpr (h2 x hx)
  simpa using this
def FlC (L : List (List Str)) (c : List Str) (p : List Nat) : Prop := p.Pairwise (fun a b => a < b ∧ meetL (sAt L a) (sAt L b) = c) ∧ ∀ k ∈ p, k < L.length
theorem FlC.mono {L : List (List Str)} {c : List Str} {p : List Nat} (h : FlC L c p) : p.Pairwise (fun a b => a < b) := h.1.imp fun h => h.1
theorem FlC.len {L : List (List Str)} {c : List Str} {p : List Nat} (h : FlC L c p) : p.length ≤ L.length := inc_len' h.mono h.2
theorem FlC.take {L : List (List Str)} {c : List Str} {p : List Nat} (h : FlC L c p) (k : Nat) : FlC L c (p.take k) := ⟨h.1.sublist (List.take_sublist _ _), fun a ha => h.2 a (List.mem_of_mem_take ha)⟩
theorem FlC.snoc {L : List (List Str)} {c : List Str} {p : List Nat} {m : Nat} : FlC L c (p ++ [m]) ↔ FlC L c p ∧ m < L.length ∧ ∀ a ∈ p, a < m ∧ meetL (sAt L a) (sAt L m) = c := by
  unfold FlC
  rw [List.pairwise_append]
  constructor
  · rintro ⟨⟨h1, _, h2⟩, h3⟩
    exact ⟨⟨h1, fun k hk => h3 k (by simp [hk])⟩, h3 m (by simp), fun a ha => h2 a ha m (by simp)⟩
  · rintro ⟨⟨h1, h3⟩, h4, h2⟩
    refine ⟨⟨h1, by simp, fun a ha b hb => ?_⟩, fun k hk => ?_⟩
    · have : b = m := by simpa using hb
      subst this; exact h2 a ha
    · rcases List.mem_append.mp hk with hk | hk
      · exact h3 k hk
      · have : k = m := by simpa using hk
        subst this; exact h4
theorem FlC.core {L : List (List Str)} {c d : List Str} {p : List Nat} (h : FlC L c p) (h2 : FlC L d p) (hl : 2 ≤ p.length) : c = d := by
  match p, hl with
  | a :: b :: r, _ =>
    have e1 := (List.pairwise_cons.mp h.1).1 b (by simp)
    have e2 := (List.pairwise_cons.mp h2.1).1 b (by simp)
    exact e1.2.symm.trans e2.2
def twosL (L : List (List Str)) (a : Nat) : List Row := (List.range' (a + 1) (L.length - (a + 1))).map fun b => ([a, b], meetL (sAt L a) (sAt L b))
def begunL (L : List (List Str)) : List Row := (List.range L.length).flatMap (twosL L)
def levF (L : List (List Str)) : Nat → List Row
  | 0 => begunL L
  | k + 1 => grownL L (levF L k)
theorem begun_mem {L : List (List Str)} {r : Row} : r ∈ begunL L ↔ ∃ a b, a < b ∧ b < L.length ∧ r = ([a, b], meetL (sAt L a) (sAt L b)) := by
  unfold begunL twosL
  rw [List.mem_flatMap]
  constructor
  · rintro ⟨a, ha, h⟩
    obtain ⟨b, hb, rfl⟩ := List.mem_map.mp h
    have := List.mem_range'_1.mp hb
    have := List.mem_range.mp ha
    exact ⟨a, b, by omega, by omega, rfl⟩
  · rintro ⟨a, b, h1, h2, rfl⟩
    exact ⟨a, List.mem_range.mpr (by omega), List.mem_map.mpr ⟨b, List.mem_range'_1.mpr (by omega), rfl⟩⟩
theorem levF_mem {L : List (List Str)} : ∀ (k : Nat) (r : Row), r ∈ levF L k ↔ r.1.length = k + 2 ∧ FlC L r.2 r.1
  | 0, r => by
    unfold levF
    rw [begun_mem]
    constructor
    · rintro ⟨a, b, h1, h2, rfl⟩
      exact ⟨rfl, by simp [h1], by simp; omega⟩
    · rintro ⟨h1, h2⟩
      obtain ⟨p, c⟩ := r
      match p, h1 with
      | [a, b], _ =>
        have h3 := (List.pairwise_cons.mp h2.1).1 b (by simp)
        exact ⟨a, b, h3.1, h2.2 b (by simp), by rw [h3.2]⟩
  | k + 1, r => by
    unfold levF
    rw [grown_mem]
    constructor
    · rintro ⟨q, hq, m, h1, h2, h3, rfl⟩
      obtain ⟨e2, e3⟩ := (levF_mem k q).mp hq
      refine ⟨by simp [e2], FlC.snoc.mpr ⟨e3, h2, fun a ha => ⟨?_, ?_⟩⟩⟩
      · have := last_max' e3.mono a ha
        omega
      · simpa using List.all_eq_true.mp h3 a ha
    · rintro ⟨h2, h3⟩
      obtain ⟨p, c⟩ := r
      simp only at h2 h3
      have hne : p ≠ [] := fun e => by rw [e] at h2; cases h2
      have e := List.dropLast_concat_getLast hne
      rw [← e] at h3
      obtain ⟨g1, g2, g3⟩ := FlC.snoc.mp h3
      have hl : p.dropLast.length = k + 2 := by rw [List.length_dropLast, h2]; rfl
      refine ⟨(p.dropLast, c), (levF_mem k _).mpr ⟨hl, g1⟩, p.getLast hne, ?_, g2, ?_, by rw [e]⟩
      · have hq : p.dropLast ≠ [] := fun z => by rw [z] at hl; cases hl
        have : lastN p.dropLast ∈ p.dropLast := by rw [lastN_get hq]; exact List.getLast_mem hq
        exact (g3 _ this).1
      · unfold fitB
        rw [List.all_eq_true]
        intro a ha
        simpa using (g3 a ha).2
theorem levF_lex (L : List (List Str)) : ∀ k, InLex (k + 2) (levF L k)
  | 0 => by
    unfold levF begunL
    refine ⟨?_, fun r hr => ?_⟩
    · rw [List.pairwise_flatMap]
      refine ⟨fun a ha => ?_, ?_⟩
      · unfold twosL
        rw [List.pairwise_map]
        exact (List.pairwise_lt_range' (s := a + 1) (n := L.length - (a + 1)) (step := 1)).imp fun h => lex_last (p := [a]) h
      · refine List.pairwise_lt_range.imp fun {a b} h => ?_
        intro x hx y hy
        obtain ⟨u, _, rfl⟩ := List.mem_map.mp hx
        obtain ⟨v, _, rfl⟩ := List.mem_map.mp hy
        exact lex_app (p := [a]) (q := [b]) rfl (lex_one h) [u] [v]
    · obtain ⟨a, b, _, _, rfl⟩ := begun_mem.mp hr
      rfl
  | k + 1 => grown_lex (levF_lex L k)
theorem wts_twos (L : List (List Str)) (x : Nat) : ∀ (k a : Nat), a + k = L.length → wts L.length ((List.range' a k).map fun b => (([x, b], meetL (sAt L x) (sAt L b)) : Row)) + 1 ≤ 2 ^ k
  | 0, a, _ => by simp [wts]
  | k + 1, a, h => by
    have h1 := wts_twos L x k (a + 1) (by omega)
    rw [List.range'_succ, List.map_cons, Nat.pow_succ]
    unfold wts at *
    rw [List.map_cons, List.sum_cons]
    have : wt L.length ([x, a], meetL (sAt L x) (sAt L a)) = 2 ^ k := by
      unfold wt lastN
      congr 1
      simp; omega
    omega
theorem wts_begun (L : List (List Str)) : wts L.length (begunL L) ≤ 2 ^ L.length := by
  have key : ∀ (k a : Nat), a + k = L.length → wts L.length ((List.range' a k).flatMap (twosL L)) + 1 ≤ 2 ^ k := by
    intro k
    induction k with
    | zero => intro a _; simp [wts]
    | succ k ih =>
      intro a h
      have h1 := ih (a + 1) (by omega)
      rw [List.range'_succ, List.flatMap_cons, wts_app, Nat.pow_succ]
      have h2 : wts L.length (twosL L a) + 1 ≤ 2 ^ k := by
        have := wts_twos L a k (a + 1) (by omega)
        unfold twosL
        rw [show L.length - (a + 1) = k by omega]
        exact this
      omega
  have := key L.length 0 (by omega)
  unfold begunL
  rw [List.range_eq_range']
  omega
theorem levF_wts (L : List (List Str)) : ∀ k, wts L.length (levF L k) ≤ 2 ^ L.length
  | 0 => wts_begun L
  | k + 1 => Nat.le_trans (grown_wts L _) (levF_wts L k)
theorem levF_len (L : List (List Str)) (k : Nat) : (levF L k).length ≤ 2 ^ L.length := Nat.le_trans (wts_len L.length _) (levF_wts L k)
def FF (L : List (List Str)) (p : List Nat) : Prop := p = [] ∨ (2 ≤ p.length ∧ ∃ c, FlC L c p)
theorem FF.lt {L : List (List Str)} {p : List Nat} (h : FF L p) : ∀ k ∈ p, k < L.length := by
  rcases h with rfl | ⟨_, c, h⟩
  · intro k hk; cases hk
  · exact h.2
theorem FF.len {L : List (List Str)} {p : List Nat} (h : FF L p) : p.length ≤ L.length := by
  rcases h with rfl | ⟨_, c, h⟩
  · exact Nat.zero_le _
  · exact h.len
def topF (L : List (List Str)) : Nat → Nat → List Nat → List Nat
  | 0, _, f => f
  | n + 1, k, f => match levF L k with
    | [] => f
    | r :: _ => topF L n (k + 1) r.1
theorem topF_best (L : List (List Str)) : ∀ (n k : Nat) (f : List Nat), L.length < k + n → k ≤ L.length → Best (fun p => FF L p ∧ p.length ≤ k + 1) f → Best (FF L) (topF L n k f)
  | 0, k, f, h, hk, _ => by omega
  | n + 1, k, f, h, hk, hb => by
    rw [topF]
    cases hl : levF L k with
    | nil =>
      refine ⟨hb.mem.1, fun p hp => hb.all p ⟨hp, ?_⟩⟩
      rcases Nat.lt_or_ge (k + 1) p.length with c | c
      · rcases hp with rfl | ⟨h2, d, hp⟩
        · simp
        · have : ((p.take (k + 2), d) : Row) ∈ levF L k := (levF_mem k _).mpr ⟨by simp; omega, hp.take _⟩
          rw [hl] at this; cases this
      · exact c
    | cons r rows =>
      have hr : r ∈ levF L k := by rw [hl]; exact List.mem_cons_self ..
      obtain ⟨h2, h3⟩ := (levF_mem _ r).mp hr
      have hkn : k + 2 ≤ L.length := by have := h3.len; omega
      refine topF_best L n (k + 1) r.1 (by omega) (by omega) ⟨⟨.inr ⟨by omega, r.2, h3⟩, by omega⟩, fun p hp => ?_⟩
      rcases Nat.lt_or_ge p.length (k + 2) with c | c
      · exact .inr (bet_iff.mpr (.inl (by omega)))
      · have hpl : p.length = k + 2 := by omega
        rcases hp.1 with rfl | ⟨_, d, hd⟩
        · simp at hpl
        · have hm : ((p, d) : Row) ∈ levF L k := (levF_mem k _).mpr ⟨hpl, hd⟩
          rw [hl] at hm
          rcases List.mem_cons.mp hm with e | e
          · exact .inl (congrArg Prod.fst e)
          · have := (levF_lex L k).1
            rw [hl, List.pairwise_cons] at this
            exact .inr (bet_iff.mpr (.inr ⟨by omega, this.1 _ e⟩))
def topR (L : List (List Str)) : List Nat := topF L (L.length + 1) 0 []
theorem topR_best (L : List (List Str)) : Best (FF L) (topR L) := by
  refine topF_best L _ 0 [] (by omega) (Nat.zero_le _) ⟨⟨.inl rfl, Nat.zero_le _⟩, fun p hp => .inl ?_⟩
  rcases hp.1 with rfl | ⟨h, _⟩
  · rfl
  · have := hp.2; omega
/-! meets of sets in order -/
theorem meetL_pw {a b : List Str} (h : a.Pairwise lO) : (meetL a b).Pairwise lO := h.sublist List.filter_sublist
theorem meetL_comm {a b : List Str} (ha : a.Pairwise lO) (hb : b.Pairwise lO) : meetL a b = meetL b a := lt_unique (meetL_pw ha) (meetL_pw hb) fun x => by rw [meetL_mem, meetL_mem]; exact And.comm
/-! rows put together by what they take -/
def stepG (ok : Nat → Bool) (st : Nat → List Str) (k : Nat) (rows : List Row) : List Row :=
  if ok k = true then rows ++ (rows.filter fun r => decide ((st k).filter (fun x => decide (x ∈ r.2)) = [])).map fun r => (r.1 ++ [k], r.2 ++ st k) else rows
def rowsG (ok : Nat → Bool) (st : Nat → List Str) : Nat → List Row
  | 0 => [([], [])]
  | k + 1 => stepG ok st k (rowsG ok st k)
theorem rowsG_len (ok : Nat → Bool) (st : Nat → List Str) : ∀ k, (rowsG ok st k).length ≤ 2 ^ k
  | 0 => Nat.le_refl _
  | k + 1 => by
    have := rowsG_len ok st k
    unfold rowsG stepG
    have hf := List.length_filter_le (fun r : Row => decide ((st k).filter (fun x => decide (x ∈ r.2)) = [])) (rowsG ok st k)
    rw [Nat.pow_succ]
    split
    · rw [List.length_append, List.length_map]; omega
    · omega
def GC (ok : Nat → Bool) (st : Nat → List Str) (p : List Nat) : Prop := p.Pairwise (fun a b => a < b ∧ ∀ x ∈ st a, x ∉ st b) ∧ ∀ a ∈ p, ok a = true
theorem apart_iff' {st : Nat → List Str} {p : List Nat} {one : List Str} : one.filter (fun x => decide (x ∈ p.flatMap st)) = [] ↔ ∀ a ∈ p, ∀ x ∈ st a, x ∉ one := by
  rw [List.filter_eq_nil_iff]
  constructor
  · intro h a ha x hx hx2
    exact h x hx2 (by simp only [decide_eq_true_eq, List.mem_flatMap]; exact ⟨a, ha, hx⟩)
  · intro h x hx hx2
    simp only [decide_eq_true_eq, List.mem_flatMap] at hx2
    obtain ⟨a, ha, h2⟩ := hx2
    exact h a ha x h2 hx
theorem GC.snoc {ok : Nat → Bool} {st : Nat → List Str} {p : List Nat} {m : Nat} : GC ok st (p ++ [m]) ↔ GC ok st p ∧ ok m = true ∧ ∀ a ∈ p, a < m ∧ ∀ x ∈ st a, x ∉ st m := by
  unfold GC
  rw [List.pairwise_append]
  constructor
  · rintro ⟨⟨h1, _, h2⟩, h3⟩
    exact ⟨⟨h1, fun k hk => h3 k (by simp [hk])⟩, h3 m (by simp), fun a ha => h2 a ha m (by simp)⟩
  · rintro ⟨⟨h1, h3⟩, h4, h2⟩
    refine ⟨⟨h1, by simp, fun a ha b hb => ?_⟩, fun k hk => ?_⟩
    · have : b = m := by simpa using hb
      subst this; exact h2 a ha
    · rcases List.mem_append.mp hk with hk | hk
      · exact h3 k hk
      · have : k = m := by simpa using hk
        subst this; exact h4
theorem rowsG_mem {ok : Nat → Bool} {st : Nat → List Str} : ∀ (k : Nat) (r : Row), r ∈ rowsG ok st k ↔ r.2 = r.1.flatMap st ∧ GC ok st r.1 ∧ ∀ a ∈ r.1, a < k
  | 0, r => by
    unfold rowsG
    constructor
    · intro h
      have : r = ([], []) := by simpa using h
      subst this
      exact ⟨rfl, ⟨List.Pairwise.nil, fun _ h => by cases h⟩, fun _ h => by cases h⟩
    · rintro ⟨h1, _, h3⟩
      obtain ⟨p, t⟩ := r
      cases p with
      | nil => simp at h1; subst h1; simp
      | cons a p => exact absurd (h3 a (List.mem_cons_self ..)) (Nat.not_lt_zero _)
  | k + 1, r => by
    have ih := rowsG_mem (ok := ok) (st := st) k
    unfold rowsG stepG
    have up : r ∈ rowsG ok st k → r.2 = r.1.flatMap st ∧ GC ok st r.1 ∧ ∀ a ∈ r.1, a < k + 1 := fun h => by
      obtain ⟨h1, h2, h3⟩ := (ih r).mp h
      exact ⟨h1, h2, fun a ha => by have := h3 a ha; omega⟩
    have dn : r.2 = r.1.flatMap st → GC ok st r.1 → (∀ a ∈ r.1, a < k + 1) → k ∉ r.1 → r ∈ rowsG ok st k := fun h1 h2 h3 c => by
      refine (ih _).mpr ⟨h1, h2, fun a ha => ?_⟩
      have := h3 a ha
      have : a ≠ k := fun e => c (e ▸ ha)
      omega
    by_cases hok : ok k = true
    · rw [if_pos hok, List.mem_append, List.mem_map]
      constructor
      · rintro (h | ⟨q, hq, rfl⟩)
        · exact up h
        · obtain ⟨hq, hf⟩ := List.mem_filter.mp hq
          obtain ⟨h1, h2, h3⟩ := (ih q).mp hq
          rw [h1] at hf
          have hf := apart_iff'.mp (of_decide_eq_true hf)
          refine ⟨by simp [h1], GC.snoc.mpr ⟨h2, hok, fun a ha => ⟨h3 a ha, hf a ha⟩⟩, fun a ha => ?_⟩
          rcases List.mem_append.mp ha with h | h
          · have := h3 a h; omega
          · have : a = k := by simpa using h
            omega
      · rintro ⟨h1, h2, h3⟩
        by_cases c : k ∈ r.1
        · obtain ⟨p, t⟩ := r
          simp only at h1 h2 h3 c
          have hne : p ≠ [] := fun e => by rw [e] at c; cases c
          have e := List.dropLast_concat_getLast hne
          have hmono : p.Pairwise (fun a b => a < b) := h2.1.imp fun h => h.1
          have hlast : p.getLast hne = k := by
            have h4 := last_max' hmono k c
            rw [lastN_get hne] at h4
            have h6 := h3 _ (List.getLast_mem hne)
            omega
          rw [hlast] at e
          rw [← e] at h2 h1
          obtain ⟨g1, g2, g3⟩ := GC.snoc.mp h2
          refine .inr ⟨(p.dropLast, p.dropLast.flatMap st), List.mem_filter.mpr ⟨(ih _).mpr ⟨rfl, g1, fun a ha => (g3 a ha).1⟩, ?_⟩, ?_⟩
          · exact decide_eq_true (apart_iff'.mpr fun a ha => (g3 a ha).2)
          · simp only [Prod.mk.injEq]
            exact ⟨e, by rw [h1]; simp⟩
        · exact .inl (dn h1 h2 h3 c)
    · rw [if_neg hok]
      constructor
      · exact up
      · rintro ⟨h1, h2, h3⟩
        exact dn h1 h2 h3 fun c => hok (h2.2 k c)
/-- what a core lets be taken -/
def leftL (L : List (List Str)) (c : List Str) (a : Nat) : List Str := (sAt L a).filter fun x => !decide (x ∈ c)
def hasC (L : List (List Str)) (c : List Str) (a : Nat) : Bool := decide (c.filter (fun x => !decide (x ∈ sAt L a)) = [])
theorem hasC_iff {L : List (List Str)} {c : List Str} {a : Nat} : hasC L c a = true ↔ ∀ x ∈ c, x ∈ sAt L a := by
  unfold hasC
  rw [decide_eq_true_eq, List.filter_eq_nil_iff]
  constructor
  · intro h x hx
    have := h x hx
    simpa using this
  · intro h x hx
    simpa using h x hx
theorem leftL_mem {L : List (List Str)} {c : List Str} {a : Nat} {x : Str} : x ∈ leftL L c a ↔ x ∈ sAt L a ∧ x ∉ c := by unfold leftL; simp
theorem sAt_pw {L : List (List Str)} (h : ∀ s ∈ L, s.Pairwise lO) (a : Nat) : (sAt L a).Pairwise lO := by
  unfold sAt
  rw [List.getD_eq_getElem?_getD]
  cases hh : L[a]? with
  | none => exact List.Pairwise.nil
  | some s => exact h s (List.mem_of_getElem? hh)
theorem gc_fl {L : List (List Str)} (hS : ∀ s ∈ L, s.Pairwise lO) {c : List Str} (hc : c.Pairwise lO) {p : List Nat} (hl : 2 ≤ p.length) (hp : ∀ a ∈ p, a < L.length) : GC (hasC L c) (leftL L c) p ↔ FlC L c p := by
  have two : ∀ a b, meetL (sAt L a) (sAt L b) = c ↔ (∀ x ∈ c, x ∈ sAt L a) ∧ (∀ x ∈ c, x ∈ sAt L b) ∧ ∀ x ∈ leftL L c a, x ∉ leftL L c b := fun a b => by
    constructor
    · intro h
      have hm : ∀ x, x ∈ c ↔ x ∈ sAt L a ∧ x ∈ sAt L b := fun x => by rw [← h, meetL_mem]
      refine ⟨fun x hx => ((hm x).mp hx).1, fun x hx => ((hm x).mp hx).2, fun x hx hx2 => ?_⟩
      rw [leftL_mem] at hx hx2
      exact hx.2 ((hm x).mpr ⟨hx.1, hx2.1⟩)
    · rintro ⟨h1, h2, h3⟩
      refine lt_unique (meetL_pw (sAt_pw hS a)) hc fun x => ?_
      rw [meetL_mem]
      constructor
      · rintro ⟨ha, hb⟩
        exact Classical.byContradiction fun hx => h3 x (leftL_mem.mpr ⟨ha, hx⟩) (leftL_mem.mpr ⟨hb, hx⟩)
      · intro hx; exact ⟨h1 x hx, h2 x hx⟩
  constructor
  · rintro ⟨h1, h2⟩
    refine ⟨h1.imp_of_mem fun {a b} ha hb h => ⟨h.1, (two a b).mpr ⟨hasC_iff.mp (h2 a ha), hasC_iff.mp (h2 b hb), h.2⟩⟩, hp⟩
  · rintro ⟨h1, h2⟩
    refine ⟨h1.imp fun {a b} h => ⟨h.1, ((two a b).mp h.2).2.2⟩, fun a ha => hasC_iff.mpr ?_⟩
    match p, hl with
    | x :: y :: r, _ =>
      rw [List.pairwise_cons] at h1
      rcases List.mem_cons.mp ha with rfl | ha
      · exact ((two _ _).mp (h1.1 y (by simp)).2).1
      · exact ((two _ _).mp (h1.1 a ha).2).2.1
end Z
namespace Z
open PySem PySem.W
/-! ### all rows of so many places -/
def begP (p : List Nat) : Nat := match p.getLast? with
  | some x => x + 1
  | none => 0
def kidsP (n : Nat) (p : List Nat) : List (List Nat) := (List.range' (begP p) (n - begP p)).map fun m => p ++ [m]
def levP (n : Nat) : Nat → List (List Nat)
  | 0 => [[]]
  | k + 1 => (levP n k).flatMap (kidsP n)
theorem begP_app (p : List Nat) (m : Nat) : begP (p ++ [m]) = m + 1 := by unfold begP; simp
theorem begP_max {p : List Nat} (h : p.Pairwise (fun a b => a < b)) : ∀ a ∈ p, a < begP p := by
  intro a ha
  have h1 := last_max' h a ha
  unfold begP lastN at *
  cases hl : p.getLast? with
  | none => rw [List.getLast?_eq_none_iff.mp hl] at ha; cases ha
  | some x => rw [hl] at h1; simp at h1 ⊢; omega
theorem levP_mem {n : Nat} : ∀ (k : Nat) (p : List Nat), p ∈ levP n k ↔ p.length = k ∧ p.Pairwise (fun a b => a < b) ∧ ∀ a ∈ p, a < n
  | 0, p => by
    unfold levP
    constructor
    · intro h
      have : p = [] := by simpa using h
      subst this; simp
    · rintro ⟨h, _⟩
      rw [List.eq_nil_of_length_eq_zero h]; simp
  | k + 1, p => by
    unfold levP
    rw [List.mem_flatMap]
    constructor
    · rintro ⟨q, hq, h⟩
      obtain ⟨m, hm, rfl⟩ := List.mem_map.mp h
      obtain ⟨h1, h2, h3⟩ := (levP_mem k q).mp hq
      have hm := List.mem_range'_1.mp hm
      refine ⟨by simp [h1], ?_, fun a ha => ?_⟩
      · rw [List.pairwise_append]
        refine ⟨h2, by simp, fun a ha b hb => ?_⟩
        have : b = m := by simpa using hb
        have := begP_max h2 a ha
        omega
      · rcases List.mem_append.mp ha with h | h
        · exact h3 a h
        · have : a = m := by simpa using h
          omega
    · rintro ⟨h1, h2, h3⟩
      have hne : p ≠ [] := fun e => by rw [e] at h1; cases h1
      have e := List.dropLast_concat_getLast hne
      rw [← e] at h2 h3
      rw [List.pairwise_append] at h2
      refine ⟨p.dropLast, (levP_mem k _).mpr ⟨by rw [List.length_dropLast, h1]; rfl, h2.1, fun a ha => h3 a (List.mem_append_left _ ha)⟩, List.mem_map.mpr ⟨p.getLast hne, ?_, e⟩⟩
      rw [List.mem_range'_1]
      have hb : begP p.dropLast ≤ p.getLast hne := by
        unfold begP
        cases hl : p.dropLast.getLast? with
        | none => simp
        | some x => exact h2.2.2 x (List.mem_of_getLast? hl) _ (by simp)
      have := h3 (p.getLast hne) (by simp)
      omega
theorem levP_lex (n : Nat) : ∀ k, (levP n k).Pairwise lex
  | 0 => by simp [levP]
  | k + 1 => by
    unfold levP
    rw [List.pairwise_flatMap]
    refine ⟨fun p hp => ?_, ?_⟩
    · unfold kidsP
      rw [List.pairwise_map]
      exact (List.pairwise_lt_range' (s := begP p) (n := n - begP p) (step := 1)).imp fun h => lex_last h
    · refine List.Pairwise.imp_of_mem (fun {a b} ha hb hab => ?_) (levP_lex n k)
      intro x hx y hy
      obtain ⟨u, _, rfl⟩ := List.mem_map.mp hx
      obtain ⟨v, _, rfl⟩ := List.mem_map.mp hy
      exact lex_app (((levP_mem k a).mp ha).1.trans ((levP_mem k b).mp hb).1.symm) hab _ _
def wP (n : Nat) (p : List Nat) : Nat := 2 ^ (n - begP p)
theorem kidsP_w (n : Nat) (p : List Nat) : ((kidsP n p).map (wP n)).sum + 1 ≤ 2 ^ (n - begP p) := by
  unfold kidsP
  have key : ∀ (k a : Nat), a + k = n → (((List.range' a k).map fun m => p ++ [m]).map (wP n)).sum + 1 ≤ 2 ^ k := by
    intro k
    induction k with
    | zero => intro a _; simp
    | succ k ih =>
      intro a h
      have h1 := ih (a + 1) (by omega)
      rw [List.range'_succ, List.map_cons, List.map_cons, List.sum_cons, Nat.pow_succ]
      have : wP n (p ++ [a]) = 2 ^ k := by unfold wP; rw [begP_app]; congr 1; omega
      omega
  rcases Nat.lt_or_ge (begP p) n with h | h
  · exact key _ _ (by omega)
  · have : n - begP p = 0 := by omega
    rw [this]; simp
theorem levP_w (n : Nat) : ∀ k, ((levP n k).map (wP n)).sum ≤ 2 ^ n
  | 0 => by simp [levP, wP, begP]
  | k + 1 => by
    refine Nat.le_trans ?_ (levP_w n k)
    show (((levP n k).flatMap (kidsP n)).map (wP n)).sum ≤ ((levP n k).map (wP n)).sum
    generalize levP n k = ps
    induction ps with
    | nil => simp
    | cons p ps ih =>
      rw [List.flatMap_cons, List.map_append, List.sum_append, List.map_cons, List.sum_cons]
      have := kidsP_w n p
      have : wP n p = 2 ^ (n - begP p) := rfl
      omega
theorem levP_len (n k : Nat) : (levP n k).length ≤ 2 ^ n := by
  refine Nat.le_trans ?_ (levP_w n k)
  generalize levP n k = ps
  induction ps with
  | nil => simp
  | cons p ps ih =>
    rw [List.map_cons, List.sum_cons, List.length_cons]
    have : 0 < wP n p := Nat.two_pow_pos _
    omega
/-! cores of rows of sets -/
def coreC (T : List (List Str)) : List Str := meetL (sAt T 0) (sAt T 1)
def flB (T : List (List Str)) : Bool := decide (T.Pairwise fun a b => meetL b a = coreC T)
def coreO (T : List (List Str)) : Option (List Str) := if flB T = true then some (coreC T) else none
def setsAt (L : List (List Str)) (p : List Nat) : List (List Str) := p.map (sAt L)
theorem setsAt_sAt {L : List (List Str)} {p : List Nat} {i : Nat} (h : i < p.length) : sAt (setsAt L p) i = sAt L p[i] := by
  unfold setsAt
  conv => lhs; unfold sAt
  rw [List.getD_eq_getElem?_getD, List.getElem?_map, List.getElem?_eq_getElem h]; rfl
theorem core_fl {L : List (List Str)} (hS : ∀ s ∈ L, s.Pairwise lO) {p : List Nat} (hp : p.Pairwise fun a b => a < b) (hn : ∀ a ∈ p, a < L.length) (hl : 2 ≤ p.length) {c : List Str} : coreO (setsAt L p) = some c ↔ FlC L c p := by
  have hc : coreC (setsAt L p) = meetL (sAt L p[0]) (sAt L p[1]) := by
    unfold coreC
    rw [setsAt_sAt (by omega), setsAt_sAt (by omega)]
  have hpw : flB (setsAt L p) = true ↔ p.Pairwise fun a b => meetL (sAt L a) (sAt L b) = coreC (setsAt L p) := by
    unfold flB setsAt
    rw [decide_eq_true_eq, List.pairwise_map]
    constructor
    · exact fun h => h.imp fun {a b} h => by rw [meetL_comm (sAt_pw hS a) (sAt_pw hS b)]; exact h
    · exact fun h => h.imp fun {a b} h => by rw [meetL_comm (sAt_pw hS b) (sAt_pw hS a)]; exact h
  unfold coreO
  constructor
  · intro h
    split at h
    · rename_i hf
      injection h with h
      refine ⟨(hp.and (hpw.mp hf)).imp fun h2 => ⟨h2.1, h2.2.trans h⟩, hn⟩
    · cases h
  · intro h
    have e : coreC (setsAt L p) = c := by
      rw [hc]
      match p, hl, h with
      | a :: b :: r, _, h => exact ((List.pairwise_cons.mp h.1).1 b (by simp)).2
    have hf : flB (setsAt L p) = true := hpw.mpr (h.1.imp fun h2 => h2.2.trans e.symm)
    rw [if_pos hf, e]
/-- the first flower of so many sets -/
def firstF (L : List (List Str)) (m : Nat) : Option (List (List Str) × List Str) := (levF L (m - 2)).head?.map fun r => (setsAt L r.1, r.2)
theorem find_first {L : List (List Str)} (hS : ∀ s ∈ L, s.Pairwise lO) {m : Nat} (hm : 2 ≤ m) :
    match (levP L.length m).find? (fun p => (coreO (setsAt L p)).isSome) with
    | some p => ∃ c, coreO (setsAt L p) = some c ∧ firstF L m = some (setsAt L p, c)
    | none => firstF L m = none := by
  have hmem : ∀ p, p ∈ levP L.length m → ∀ c, coreO (setsAt L p) = some c ↔ (p, c) ∈ levF L (m - 2) := fun p hp c => by
    obtain ⟨h1, h2, h3⟩ := (levP_mem m p).mp hp
    rw [core_fl hS h2 h3 (by omega), levF_mem]
    exact ⟨fun h => ⟨by simp; omega, h⟩, fun h => h.2⟩
  have hback : ∀ r ∈ levF L (m - 2), r.1 ∈ levP L.length m := fun r hr => by
    obtain ⟨h1, h2⟩ := (levF_mem _ r).mp hr
    exact (levP_mem m _).mpr ⟨by omega, h2.mono, h2.2⟩
  cases hf : (levP L.length m).find? (fun p => (coreO (setsAt L p)).isSome) with
  | none =>
    simp only
    unfold firstF
    cases hl : levF L (m - 2) with
    | nil => rfl
    | cons r rows =>
      have hr : r ∈ levF L (m - 2) := by rw [hl]; exact List.mem_cons_self ..
      have h1 := hback r hr
      have h2 := (hmem r.1 h1 r.2).mpr hr
      have := List.find?_eq_none.mp hf r.1 h1
      rw [h2] at this
      simp at this
  | some p =>
    simp only
    obtain ⟨hp, as, bs, e, hno⟩ := List.find?_eq_some_iff_append.mp hf
    have hpm : p ∈ levP L.length m := by rw [e]; simp
    obtain ⟨c, hc⟩ := Option.isSome_iff_exists.mp hp
    refine ⟨c, hc, ?_⟩
    have hin := (hmem p hpm c).mp hc
    unfold firstF
    cases hl : levF L (m - 2) with
    | nil => rw [hl] at hin; cases hin
    | cons r rows =>
      have hr : r ∈ levF L (m - 2) := by rw [hl]; exact List.mem_cons_self ..
      have hr1 := hback r hr
      have hrc := (hmem r.1 hr1 r.2).mpr hr
      -- r is p
      have hrp : r = (p, c) := by
        rw [hl] at hin
        rcases List.mem_cons.mp hin with e1 | e1
        · exact e1.symm
        · exfalso
          have hlx := (levF_lex L (m - 2)).1
          rw [hl, List.pairwise_cons] at hlx
          have h1 := hlx.1 _ e1
          have h2 := levP_lex L.length m
          rw [e] at h2 hr1
          rcases List.mem_append.mp hr1 with h3 | h3
          · have := hno r.1 h3
            rw [hrc] at this
            simp at this
          · rcases List.mem_cons.mp h3 with h4 | h4
            · rw [h4] at h1
              unfold lex at h1
              rw [listLt_irr] at h1; cases h1
            · have h5 := (List.pairwise_cons.mp (List.pairwise_append.mp h2).2.1).1 _ h4
              have := listLt_tr h1 h5
              rw [listLt_irr] at this; cases this
      rw [hrp]; rfl
/-! thinning -/
def flT (L : List (List Str)) (t : Nat) : Option (List (List Str) × List Str) := if t = 0 then (L.filter fun s => !decide (s = [])).head?.map fun s => ([s], []) else firstF L (t + 1)
def stepT (L T : List (List Str)) (c : List Str) : List (List Str) := srtT ((L.filter fun s => !decide (s ∈ T) && !decide (s = c)) ++ [c])
def thinL : Nat → List (List Str) → Nat → Nat → List (List Str) × Nat
  | 0, L, _, m => (L, m)
  | n + 1, L, t, m => match flT L t with
    | none => (L, m)
    | some (T, c) => thinL n (stepT L T c) t (m + 1)
/-- a collection in order, of sets in order -/
structure CO (names : List Str) (L : List (List Str)) : Prop where
  lt : L.Pairwise ltT
  six : ∀ s ∈ L, s.length ≤ 6
  srt : ∀ s ∈ L, s.Pairwise lO
  sub : ∀ s ∈ L, ∀ x ∈ s, x ∈ names
theorem Coll.co {names : List Str} {L : List (List Str)} (h : Coll names L) : CO names L := ⟨h.lt, h.six, h.srt, h.sub⟩
theorem sAt_mem' {L : List (List Str)} {k : Nat} (h : k < L.length) : sAt L k ∈ L := by
  unfold sAt
  rw [List.getD_eq_getElem?_getD, List.getElem?_eq_getElem h]
  exact List.getElem_mem h
theorem get_inj {α : Type} {l : List α} (h : l.Nodup) {i j : Nat} (hi : i < l.length) (hj : j < l.length) (e : l[i] = l[j]) : i = j := by
  unfold List.Nodup at h
  rw [List.pairwise_iff_getElem] at h
  rcases Nat.lt_trichotomy i j with g | g | g
  · exact absurd e (h i j hi hj g)
  · exact g
  · exact absurd e.symm (h j i hj hi g)
theorem sAt_inj {L : List (List Str)} (h : L.Nodup) {a b : Nat} (ha : a < L.length) (hb : b < L.length) (e : sAt L a = sAt L b) : a = b := by
  unfold sAt at e
  rw [List.getD_eq_getElem?_getD, List.getElem?_eq_getElem ha, List.getD_eq_getElem?_getD, List.getElem?_eq_getElem hb] at e
  exact get_inj h ha hb e
/-- what a flower of flT is -/
structure IsF (L : List (List Str)) (t : Nat) (T : List (List Str)) (c : List Str) : Prop where
  len : T.length = t + 1
  sub : ∀ s ∈ T, s ∈ L
  nd : T.Nodup
  pw : 0 < t → T.Pairwise fun a b => meetL a b = c
  zero : t = 0 → c = [] ∧ ∀ s ∈ T, s ≠ []
theorem flT_is {names : List Str} {L : List (List Str)} (h : CO names L) {t : Nat} {T : List (List Str)} {c : List Str} (e : flT L t = some (T, c)) : IsF L t T c := by
  have hnd := ltT_nodup h.lt
  unfold flT at e
  by_cases ht : t = 0
  · rw [if_pos ht] at e
    obtain ⟨s, hs, e2⟩ := Option.map_eq_some_iff.mp e
    injection e2 with e3 e4
    subst e3 e4
    have hm := List.mem_filter.mp (List.mem_of_head? hs)
    refine ⟨by simp [ht], fun x hx => ?_, by simp, fun h => by omega, fun _ => ⟨rfl, fun x hx => ?_⟩⟩
    · have : x = s := by simpa using hx
      subst this; exact hm.1
    · have : x = s := by simpa using hx
      subst this; simpa using hm.2
  · rw [if_neg ht] at e
    unfold firstF at e
    obtain ⟨r, hr, e2⟩ := Option.map_eq_some_iff.mp e
    injection e2 with e3 e4
    subst e3 e4
    have hm := List.mem_of_head? hr
    obtain ⟨h1, h2⟩ := (levF_mem _ r).mp hm
    refine ⟨by unfold setsAt; rw [List.length_map]; omega, fun s hs => ?_, ?_, fun _ => ?_, fun h => absurd h ht⟩
    · unfold setsAt at hs
      obtain ⟨a, ha, rfl⟩ := List.mem_map.mp hs
      exact sAt_mem' (h2.2 a ha)
    · unfold setsAt
      refine nodup_inj (h2.mono.imp fun h => Nat.ne_of_lt h) fun a ha b hb e => sAt_inj hnd (h2.2 a ha) (h2.2 b hb) e
    · unfold setsAt
      rw [List.pairwise_map]
      exact h2.1.imp fun h => h.2
theorem IsF.core_sub {L : List (List Str)} {t : Nat} {T : List (List Str)} {c : List Str} (h : IsF L t T c) : ∀ s ∈ T, ∀ x ∈ c, x ∈ s := by
  intro s hs x hx
  rcases Nat.eq_zero_or_pos t with ht | ht
  · rw [(h.zero ht).1] at hx; cases hx
  · have hp := h.pw ht
    have hl := h.len
    obtain ⟨i, hi, e⟩ := List.getElem_of_mem hs
    rw [List.pairwise_iff_getElem] at hp
    rcases Nat.eq_zero_or_pos i with z | z
    · have := hp 0 1 (by omega) (by omega) (by omega)
      rw [← this, meetL_mem] at hx
      rw [← e]
      simp only [z]
      exact hx.1
    · have := hp 0 i (by omega) hi z
      rw [← this, meetL_mem] at hx
      rw [← e]; exact hx.2
theorem IsF.core_of {L : List (List Str)} {t : Nat} {T : List (List Str)} {c : List Str} (h : IsF L t T c) (ht : 0 < t) : ∃ a ∈ L, ∃ b ∈ L, a ≠ b ∧ c = meetL a b := by
  have hp := h.pw ht
  have hl := h.len
  rw [List.pairwise_iff_getElem] at hp
  refine ⟨T[0], h.sub _ (List.getElem_mem _), T[1], h.sub _ (List.getElem_mem _), fun e => ?_, (hp 0 1 (by omega) (by omega) (by omega)).symm⟩
  have := get_inj h.nd _ _ e
  omega
theorem step_mem {L T : List (List Str)} {c s : List Str} : s ∈ stepT L T c ↔ s = c ∨ (s ∈ L ∧ s ∉ T ∧ s ≠ c) := by
  unfold stepT
  rw [srtT_mem, List.mem_append, List.mem_filter]
  simp only [Bool.and_eq_true, Bool.not_eq_true', decide_eq_false_iff_not, List.mem_singleton]
  constructor
  · rintro (h | h)
    · exact .inr h
    · exact .inl h
  · rintro (h | h)
    · exact .inr h
    · exact .inl h
theorem step_co {names : List Str} {L : List (List Str)} (h : CO names L) {t : Nat} {T : List (List Str)} {c : List Str} (hf : IsF L t T c) : CO names (stepT L T c) := by
  have hnd := ltT_nodup h.lt
  have hcL : c = [] ∨ ∃ a ∈ L, c.Sublist a := by
    rcases Nat.eq_zero_or_pos t with ht | ht
    · exact .inl (hf.zero ht).1
    · obtain ⟨a, ha, b, _, _, e⟩ := hf.core_of ht
      exact .inr ⟨a, ha, by rw [e]; exact List.filter_sublist⟩
  have good : ∀ s ∈ stepT L T c, s.length ≤ 6 ∧ s.Pairwise lO ∧ ∀ x ∈ s, x ∈ names := fun s hs => by
    rcases step_mem.mp hs with rfl | ⟨h1, _, _⟩
    · rcases hcL with rfl | ⟨a, ha, hsub⟩
      · exact ⟨by simp, List.Pairwise.nil, fun x hx => by cases hx⟩
      · exact ⟨Nat.le_trans hsub.length_le (h.six a ha), (h.srt a ha).sublist hsub, fun x hx => h.sub a ha x (hsub.subset hx)⟩
    · exact ⟨h.six s h1, h.srt s h1, h.sub s h1⟩
  refine ⟨?_, fun s hs => (good s hs).1, fun s hs => (good s hs).2.1, fun s hs => (good s hs).2.2⟩
  unfold stepT srtT
  refine pw_items (srt_lt ?_)
  rw [List.Nodup, List.pairwise_map, List.pairwise_append]
  refine ⟨(hnd.filter _).imp fun h e => h (by cases e; rfl), by simp, fun a ha b hb e => ?_⟩
  have hb : b = c := by simpa using hb
  have e : a = b := by cases e; rfl
  obtain ⟨_, h2⟩ := List.mem_filter.mp ha
  rw [e, hb] at h2
  simp at h2
def named (L : List (List Str)) : Nat := (L.filter fun s => !decide (s = [])).length
def meas (t : Nat) (L : List (List Str)) : Nat := if t = 0 then named L else L.length
theorem filter_not_mem_len {L T : List (List Str)} (hL : L.Nodup) (hT : T.Nodup) (hs : ∀ s ∈ T, s ∈ L) (p : List Str → Bool) (hp : ∀ s ∈ T, p s = false) : (L.filter p).length + T.length ≤ L.length := by
  have h1 : (L.filter p ++ T).Nodup := by
    rw [List.nodup_append]
    refine ⟨hL.filter _, hT, fun a ha b hb e => ?_⟩
    subst e
    have := (List.mem_filter.mp ha).2
    rw [hp a hb] at this; cases this
  have := ZT.len_sub _ L h1 fun x hx => by
    rcases List.mem_append.mp hx with h | h
    · exact (List.mem_filter.mp h).1
    · exact hs x h
  rwa [List.length_append] at this
theorem step_len {names : List Str} {L : List (List Str)} (h : CO names L) {t : Nat} {T : List (List Str)} {c : List Str} (hf : IsF L t T c) : (stepT L T c).length + t ≤ L.length := by
  have hnd := ltT_nodup h.lt
  have := filter_not_mem_len hnd hf.nd hf.sub (fun s => !decide (s ∈ T) && !decide (s = c)) fun s hs => by simp [hs]
  have hl := hf.len
  unfold stepT
  rw [srtT_len, List.length_append, List.length_singleton]
  omega
theorem step_meas {names : List Str} {L : List (List Str)} (h : CO names L) {t : Nat} {T : List (List Str)} {c : List Str} (hf : IsF L t T c) : meas t (stepT L T c) < meas t L := by
  unfold meas
  split
  · rename_i ht
    obtain ⟨h1, h2⟩ := hf.zero ht
    have hl := hf.len
    rw [ht] at hl
    match T, hl with
    | [s], _ =>
      have hs := hf.sub s (by simp)
      have hne := h2 s (by simp)
      have hnd2 := ltT_nodup (step_co h hf).lt
      unfold named
      have hx : ((stepT L [s] c).filter fun s => !decide (s = []) ).length + 1 ≤ (L.filter fun s => !decide (s = [])).length := by
        have h3 : (s :: (stepT L [s] c).filter fun s => !decide (s = [])).Nodup := by
          rw [List.nodup_cons]
          refine ⟨fun hm => ?_, hnd2.filter _⟩
          rcases step_mem.mp (List.mem_filter.mp hm).1 with e | e
          · exact hne (e.trans h1)
          · exact e.2.1 (by simp)
        have := ZT.len_sub _ (L.filter fun s => !decide (s = [])) h3 fun x hx => by
          rcases List.mem_cons.mp hx with rfl | hx
          · exact List.mem_filter.mpr ⟨hs, by simpa using hne⟩
          · obtain ⟨g1, g2⟩ := List.mem_filter.mp hx
            have g2 : x ≠ [] := by simpa using g2
            rcases step_mem.mp g1 with e | e
            · exact absurd (e.trans h1) g2
            · exact List.mem_filter.mpr ⟨e.1, by simpa using g2⟩
        simpa using this
      omega
  · have := step_len h hf
    omega
theorem thin_ind {names : List Str} {t : Nat} (P : List (List Str) → Nat → Prop) (hP : ∀ L m T c, CO names L → P L m → IsF L t T c → flT L t = some (T, c) → P (stepT L T c) (m + 1)) : ∀ (n : Nat) (L : List (List Str)) (m : Nat), CO names L → meas t L < n → P L m → P (thinL n L t m).1 (thinL n L t m).2 ∧ CO names (thinL n L t m).1 ∧ flT (thinL n L t m).1 t = none
  | 0, L, m, _, h, _ => by omega
  | n + 1, L, m, hc, h, hp => by
    rw [thinL]
    cases e : flT L t with
    | none => exact ⟨hp, hc, e⟩
    | some q =>
      obtain ⟨T, c⟩ := q
      have hf := flT_is hc e
      exact thin_ind P hP n (stepT L T c) (m + 1) (step_co hc hf) (by have := step_meas hc hf; omega) (hP L m T c hc hp hf e)
/-! rows that hit -/
def hitB (L : List (List Str)) (row : List Str) : Bool := L.all fun s => s.any fun x => decide (x ∈ row)
theorem hitB_iff {L : List (List Str)} {row : List Str} : hitB L row = true ↔ ∀ s ∈ L, ∃ x ∈ s, x ∈ row := by
  unfold hitB
  rw [List.all_eq_true]
  constructor
  · intro h s hs
    obtain ⟨x, h1, h2⟩ := List.any_eq_true.mp (h s hs)
    exact ⟨x, h1, by simpa using h2⟩
  · intro h s hs
    obtain ⟨x, h1, h2⟩ := h s hs
    exact List.any_eq_true.mpr ⟨x, h1, by simpa using h2⟩
theorem petals_hit {L : List (List Str)} {t : Nat} {T : List (List Str)} {c : List Str} (hf : IsF L t T c) {row : List Str} (hr : row.length ≤ t) (h : ∀ s ∈ T, ∃ x ∈ s, x ∈ row) : ∃ x ∈ c, x ∈ row := by
  refine Classical.byContradiction fun hno => ?_
  have hno : ∀ x ∈ c, x ∉ row := fun x hx hxr => hno ⟨x, hx, hxr⟩
  -- each set gives a name of the row; unlike sets unlike names
  have key : ∀ T' : List (List Str), (∀ s ∈ T', s ∈ T) → T'.Pairwise (fun a b => meetL a b = c) → ∃ ys : List Str, ys.length = T'.length ∧ ys.Nodup ∧ (∀ y ∈ ys, y ∈ row) ∧ ∀ y ∈ ys, ∃ s ∈ T', y ∈ s := by
    intro T'
    induction T' with
    | nil => intro _ _; exact ⟨[], rfl, List.nodup_nil, fun _ h => (by cases h), fun _ h => (by cases h)⟩
    | cons s r ih =>
      intro hs hp
      rw [List.pairwise_cons] at hp
      obtain ⟨ys, h1, h2, h3, h4⟩ := ih (fun x hx => hs x (List.mem_cons_of_mem _ hx)) hp.2
      obtain ⟨y, hy, hyr⟩ := h s (hs s (List.mem_cons_self ..))
      refine ⟨y :: ys, by simp [h1], List.nodup_cons.mpr ⟨fun hm => ?_, h2⟩, fun z hz => ?_, fun z hz => ?_⟩
      · obtain ⟨s2, hs2, hy2⟩ := h4 y hm
        have : y ∈ c := by rw [← hp.1 s2 hs2]; exact meetL_mem.mpr ⟨hy, hy2⟩
        exact hno y this hyr
      · rcases List.mem_cons.mp hz with rfl | hz
        · exact hyr
        · exact h3 z hz
      · rcases List.mem_cons.mp hz with rfl | hz
        · exact ⟨s, List.mem_cons_self .., hy⟩
        · obtain ⟨s2, g1, g2⟩ := h4 z hz
          exact ⟨s2, List.mem_cons_of_mem _ g1, g2⟩
  rcases Nat.eq_zero_or_pos t with ht | ht
  · have hl := hf.len
    obtain ⟨s, hs⟩ : ∃ s, s ∈ T := by
      cases T with
      | nil => simp at hl
      | cons s r => exact ⟨s, List.mem_cons_self ..⟩
    obtain ⟨x, _, hx⟩ := h s hs
    have : row = [] := List.eq_nil_of_length_eq_zero (by omega)
    rw [this] at hx; cases hx
  · obtain ⟨ys, h1, h2, h3, _⟩ := key T (fun s hs => hs) (hf.pw ht)
    have := ZT.len_sub ys row h2 h3
    have := hf.len
    omega
theorem step_hit {L : List (List Str)} {t : Nat} {T : List (List Str)} {c : List Str} (hf : IsF L t T c) {row : List Str} (hr : row.length ≤ t) : hitB (stepT L T c) row = hitB L row := by
  rw [Bool.eq_iff_iff, hitB_iff, hitB_iff]
  constructor
  · intro h s hs
    obtain ⟨x, hx, hxr⟩ := h c (step_mem.mpr (.inl rfl))
    by_cases hT : s ∈ T
    · exact ⟨x, hf.core_sub s hT x hx, hxr⟩
    · by_cases hc : s = c
      · exact ⟨x, hc ▸ hx, hxr⟩
      · exact h s (step_mem.mpr (.inr ⟨hs, hT, hc⟩))
  · intro h s hs
    rcases step_mem.mp hs with rfl | ⟨h1, _, _⟩
    · exact petals_hit hf hr fun s hs => h s (hf.sub s hs)
    · exact h s h1
end Z
namespace Z
open PySem PySem.W
theorem lc_sub {mg : PyData → Env → W Env} {mt : Env → W Bool} {me : Env → W PyData} {e : Env} {α : Type} (t : α → PyData) (must : α → Prop) : ∀ (xs : List α), (∀ x ∈ xs, (mg (t x) e).run fun e1 => (mt e1).run fun b => (must x → b = true) ∧ (b = true → (me e1).run fun y => y = t x)) → ∀ {QL : List PyData → Prop}, (∀ ys : List α, ys.Sublist xs → (∀ x ∈ xs, must x → x ∈ ys) → QL (ys.map t)) → (lcM mg mt me e (xs.map t)).run QL
  | [], _, QL, q => q [] (List.Sublist.refl _) (fun _ h => by cases h)
  | x :: r, h, QL, q => by
    rw [List.map_cons, lc_cons]
    refine W.to (h x (List.mem_cons_self ..)) fun e1 h1 => W.to h1 fun b hb => ?_
    obtain ⟨hb1, hb2⟩ := hb
    cases b with
    | true =>
      rw [if_pos rfl]
      refine W.to (hb2 rfl) fun y hy => ?_
      subst hy
      refine lc_sub t must r (fun x hx => h x (List.mem_cons_of_mem _ hx)) fun ys h1 h2 => q (x :: ys) (h1.cons_cons x) fun z hz hm => ?_
      rcases List.mem_cons.mp hz with rfl | hz
      · exact List.mem_cons_self ..
      · exact List.mem_cons_of_mem _ (h2 z hz hm)
    | false =>
      rw [if_neg (by decide)]
      refine lc_sub t must r (fun x hx => h x (List.mem_cons_of_mem _ hx)) fun ys h1 h2 => q ys (h1.cons x) fun z hz hm => ?_
      rcases List.mem_cons.mp hz with rfl | hz
      · exact absurd (hb1 hm) (by decide)
      · exact h2 z hz hm
/-! ### the least row that hits -/
def rowN (names : List Str) (p : List Nat) : List Str := p.map fun i => names.getD i ⟨#[]⟩
def rowsN (names : List Str) (k : Nat) : List (List Str) := (levP names.length k).map (rowN names)
def allN (names : List Str) : List (List Str) := (List.range (names.length + 1)).flatMap (rowsN names)
def leastO (names : List Str) (L : List (List Str)) : Option (List Str) := (allN names).find? (hitB L)
theorem getD_get {names : List Str} {i : Nat} (h : i < names.length) : names.getD i ⟨#[]⟩ = names[i] := by
  rw [List.getD_eq_getElem?_getD, List.getElem?_eq_getElem h]; rfl
theorem lO_asym {a b : Str} (h : lO a b) (h2 : lO b a) : False := by
  have := SOrd.tr h h2
  rw [SOrd.irr] at this; cases this
theorem names_mono {names : List Str} (hn : names.Pairwise lO) {i j : Nat} (hi : i < names.length) (hj : j < names.length) : lO names[i] names[j] ↔ i < j := by
  rw [List.pairwise_iff_getElem] at hn
  constructor
  · intro h
    rcases Nat.lt_trichotomy i j with g | g | g
    · exact g
    · subst g; exact (lO_asym h h).elim
    · exact (lO_asym h (hn j i hj hi g)).elim
  · exact hn i j hi hj
theorem lex_rowN {names : List Str} (hn : names.Pairwise lO) : ∀ {p q : List Nat}, (∀ a ∈ p, a < names.length) → (∀ a ∈ q, a < names.length) → lex p q → ltT (rowN names p) (rowN names q)
  | [], [], _, _, h => by cases h
  | [], b :: q, _, _, h => by rfl
  | a :: p, [], _, _, h => by cases h
  | a :: p, b :: q, hp, hq, h => by
    unfold lex zl at h
    rw [List.map_cons, List.map_cons, listLt] at h
    unfold ltT rowN
    rw [List.map_cons, List.map_cons, listLt]
    have ha := hp a (List.mem_cons_self ..)
    have hb := hq b (List.mem_cons_self ..)
    by_cases c : a = b
    · subst c
      rw [if_pos rfl] at h ⊢
      exact lex_rowN hn (fun x hx => hp x (List.mem_cons_of_mem _ hx)) (fun x hx => hq x (List.mem_cons_of_mem _ hx)) h
    · rw [if_neg (by omega)] at h
      have h : decide ((a : Int) < b) = true := h
      have hab : a < b := by simpa using h
      rw [getD_get ha, getD_get hb]
      have := (names_mono hn ha hb).mpr hab
      rw [if_neg (fun e => by rw [e] at this; exact lO_asym this this)]
      exact this
theorem rowsN_mem {names : List Str} (hn : names.Pairwise lO) {k : Nat} {r : List Str} : r ∈ rowsN names k ↔ r.length = k ∧ r.Pairwise lO ∧ ∀ x ∈ r, x ∈ names := by
  unfold rowsN
  rw [List.mem_map]
  constructor
  · rintro ⟨p, hp, rfl⟩
    obtain ⟨h1, h2, h3⟩ := (levP_mem k p).mp hp
    refine ⟨by unfold rowN; rw [List.length_map]; exact h1, ?_, fun x hx => ?_⟩
    · unfold rowN
      rw [List.pairwise_map]
      refine List.Pairwise.imp_of_mem (fun {a b} ha hb hab => ?_) h2
      rw [getD_get (h3 a ha), getD_get (h3 b hb)]
      exact (names_mono hn _ _).mpr hab
    · unfold rowN at hx
      obtain ⟨i, hi, rfl⟩ := List.mem_map.mp hx
      rw [getD_get (h3 i hi)]
      exact List.getElem_mem _
  · rintro ⟨h1, h2, h3⟩
    have hix : ∀ x ∈ r, names.idxOf x < names.length := fun x hx => List.idxOf_lt_length_of_mem (h3 x hx)
    have hget : ∀ x (hx : x ∈ r), names[names.idxOf x]'(hix x hx) = x := fun x hx => List.getElem_idxOf _
    refine ⟨r.map fun x => names.idxOf x, (levP_mem k _).mpr ⟨by rw [List.length_map]; exact h1, ?_, fun a ha => ?_⟩, ?_⟩
    · rw [List.pairwise_map]
      refine List.Pairwise.imp_of_mem (fun {a b} ha hb hab => ?_) h2
      rw [← names_mono hn (hix a ha) (hix b hb), hget a ha, hget b hb]
      exact hab
    · obtain ⟨x, hx, rfl⟩ := List.mem_map.mp ha
      exact hix x hx
    · unfold rowN
      rw [List.map_map]
      conv => rhs; rw [← List.map_id r]
      refine List.map_congr_left fun x hx => ?_
      show names.getD (names.idxOf x) _ = x
      rw [getD_get (hix x hx), hget x hx]
def befR (a b : List Str) : Prop := a.length < b.length ∨ (a.length = b.length ∧ ltT a b)
theorem allN_bef {names : List Str} (hn : names.Pairwise lO) : (allN names).Pairwise befR := by
  unfold allN
  rw [List.pairwise_flatMap]
  refine ⟨fun k _ => ?_, ?_⟩
  · unfold rowsN
    rw [List.pairwise_map]
    refine List.Pairwise.imp_of_mem (fun {a b} ha hb hab => ?_) (levP_lex names.length k)
    obtain ⟨a1, a2, a3⟩ := (levP_mem k a).mp ha
    obtain ⟨b1, b2, b3⟩ := (levP_mem k b).mp hb
    exact .inr ⟨by unfold rowN; rw [List.length_map, List.length_map]; omega, lex_rowN hn a3 b3 hab⟩
  · refine List.pairwise_lt_range.imp fun {i j} hij a ha b hb => ?_
    have h1 := ((rowsN_mem hn).mp ha).1
    have h2 := ((rowsN_mem hn).mp hb).1
    exact .inl (by omega)
theorem allN_mem {names : List Str} (hn : names.Pairwise lO) {r : List Str} : r ∈ allN names ↔ r.Pairwise lO ∧ ∀ x ∈ r, x ∈ names := by
  unfold allN
  rw [List.mem_flatMap]
  constructor
  · rintro ⟨k, _, h⟩; exact ((rowsN_mem hn).mp h).2
  · rintro ⟨h1, h2⟩
    refine ⟨r.length, ?_, (rowsN_mem hn).mpr ⟨rfl, h1, h2⟩⟩
    have := ZT.len_sub r names (lt_nodup h1) h2
    rw [List.mem_range]; omega
structure IsLeast (L : List (List Str)) (r : List Str) : Prop where
  srt : r.Pairwise lO
  hit : hitB L r = true
  len : ∀ r', hitB L r' = true → r.length ≤ r'.length
  lex : ∀ r', r'.Pairwise lO → hitB L r' = true → r'.length = r.length → r' = r ∨ ltT r r'
theorem IsLeast.unique {L : List (List Str)} {a b : List Str} (h1 : IsLeast L a) (h2 : IsLeast L b) : a = b := by
  have l1 := h1.len b h2.hit
  have l2 := h2.len a h1.hit
  rcases h1.lex b h2.srt h2.hit (by omega) with e | e
  · exact e.symm
  · rcases h2.lex a h1.srt h1.hit (by omega) with e2 | e2
    · exact e2
    · have := listLt_tr e e2
      rw [listLt_irr] at this; cases this
theorem IsLeast.congr {L M : List (List Str)} {r : List Str} (h : IsLeast L r) (e : ∀ r', hitB M r' = hitB L r') : IsLeast M r := ⟨h.srt, by rw [e]; exact h.hit, fun r' h' => h.len r' (by rw [← e]; exact h'), fun r' h1 h2 h3 => h.lex r' h1 (by rw [← e]; exact h2) h3⟩
theorem IsLeast.upto {L M : List (List Str)} {r : List Str} {t : Nat} (h : IsLeast L r) (ht : r.length ≤ t) (e : ∀ r', r'.length ≤ t → hitB M r' = hitB L r') : IsLeast M r := by
  refine ⟨h.srt, by rw [e r ht]; exact h.hit, fun r' h' => ?_, fun r' h1 h2 h3 => h.lex r' h1 (by rw [← e r' (by omega)]; exact h2) h3⟩
  rcases Nat.lt_or_ge t r'.length with c | c
  · omega
  · exact h.len r' (by rw [← e r' c]; exact h')
theorem hit_filter {names : List Str} {L : List (List Str)} (hm : ∀ s ∈ L, ∀ x ∈ s, x ∈ names) {r : List Str} (h : hitB L r = true) : hitB L (names.filter fun x => decide (x ∈ r)) = true := by
  rw [hitB_iff] at h ⊢
  intro s hs
  obtain ⟨x, h1, h2⟩ := h s hs
  exact ⟨x, h1, List.mem_filter.mpr ⟨hm s hs x h1, by simpa using h2⟩⟩
theorem sorted_same {a b : List Str} (ha : a.Pairwise lO) (hb : b.Pairwise lO) (hs : ∀ x ∈ a, x ∈ b) (hl : b.length ≤ a.length) : a = b := by
  refine lt_unique ha hb fun x => ⟨hs x, fun hx => ?_⟩
  refine Classical.byContradiction fun hn => ?_
  have := ZT.len_sub (x :: a) b (List.nodup_cons.mpr ⟨hn, lt_nodup ha⟩) fun y hy => by
    rcases List.mem_cons.mp hy with rfl | hy
    · exact hx
    · exact hs y hy
  rw [List.length_cons] at this
  omega
theorem leastO_spec {names : List Str} {L : List (List Str)} (hn : names.Pairwise lO) (hm : ∀ s ∈ L, ∀ x ∈ s, x ∈ names) :
    match leastO names L with
    | some r => IsLeast L r ∧ [] ∉ L ∧ ∀ x ∈ r, x ∈ names
    | none => [] ∈ L := by
  cases hf : leastO names L with
  | none =>
    simp only
    refine Classical.byContradiction fun hno => ?_
    have h1 : hitB L names = true := by
      rw [hitB_iff]
      intro s hs
      cases s with
      | nil => exact absurd hs hno
      | cons x r => exact ⟨x, List.mem_cons_self .., hm _ hs x (List.mem_cons_self ..)⟩
    have := List.find?_eq_none.mp hf names ((allN_mem hn).mpr ⟨hn, fun x h => h⟩)
    exact this h1
  | some r =>
    simp only
    obtain ⟨hh, as, bs, e, hno⟩ := List.find?_eq_some_iff_append.mp hf
    have hr : r ∈ allN names := by rw [e]; simp
    obtain ⟨hr1, hr2⟩ := (allN_mem hn).mp hr
    have hb := allN_bef hn
    have key : ∀ r', r' ∈ allN names → hitB L r' = true → r' = r ∨ befR r r' := by
      intro r' h1 h2
      rw [e] at h1 hb
      rcases List.mem_append.mp h1 with h | h
      · have := hno r' h
        rw [h2] at this; cases this
      · rcases List.mem_cons.mp h with h | h
        · exact .inl h
        · exact .inr ((List.pairwise_cons.mp (List.pairwise_append.mp hb).2.1).1 r' h)
    have fil : ∀ r', hitB L r' = true → (names.filter fun x => decide (x ∈ r')) ∈ allN names := fun r' _ => (allN_mem hn).mpr ⟨hn.filter _, fun x hx => (List.mem_filter.mp hx).1⟩
    have flen : ∀ r' : List Str, (names.filter fun x => decide (x ∈ r')).length ≤ r'.length := fun r' => ZT.len_sub _ r' ((lt_nodup hn).filter _) fun x hx => by simpa using (List.mem_filter.mp hx).2
    have hlen : ∀ r', hitB L r' = true → r.length ≤ (names.filter fun x => decide (x ∈ r')).length := fun r' h => by
      rcases key _ (fil r' h) (hit_filter hm h) with e2 | e2 | e2
      · rw [e2]; exact Nat.le_refl _
      · omega
      · omega
    refine ⟨⟨hr1, hh, fun r' h => Nat.le_trans (hlen r' h) (flen r'), fun r' h1 h2 h3 => ?_⟩, fun hc => ?_, hr2⟩
    · have e3 : (names.filter fun x => decide (x ∈ r')) = r' := sorted_same (hn.filter _) h1 (fun x hx => by simpa using (List.mem_filter.mp hx).2) (by have := hlen r' h2; omega)
      have := fil r' h2
      rw [e3] at this
      rcases key r' this h2 with e2 | e2 | e2
      · exact .inl e2
      · omega
      · exact .inr e2.2
    · obtain ⟨x, hx, _⟩ := hitB_iff.mp hh [] hc
      cases hx
theorem leastO_of {names : List Str} {L : List (List Str)} (hn : names.Pairwise lO) (hm : ∀ s ∈ L, ∀ x ∈ s, x ∈ names) {r : List Str} (h : IsLeast L r) : leastO names L = some r := by
  have := leastO_spec hn hm
  cases hf : leastO names L with
  | none =>
    rw [hf] at this
    obtain ⟨x, hx, _⟩ := hitB_iff.mp h.hit [] this
    cases hx
  | some r' =>
    rw [hf] at this
    rw [this.1.unique h]
/-- without the sets of its first name -/
theorem IsLeast.tail {L : List (List Str)} {x : Str} {r : List Str} (h : IsLeast L (x :: r)) : IsLeast (L.filter fun s => !decide (x ∈ s)) r := by
  have hs := List.pairwise_cons.mp h.srt
  have up : ∀ r', hitB (L.filter fun s => !decide (x ∈ s)) r' = true → hitB L (x :: r') = true := fun r' h' => by
    rw [hitB_iff] at h' ⊢
    intro s hs
    by_cases c : x ∈ s
    · exact ⟨x, c, List.mem_cons_self ..⟩
    · obtain ⟨y, h1, h2⟩ := h' s (List.mem_filter.mpr ⟨hs, by simpa using c⟩)
      exact ⟨y, h1, List.mem_cons_of_mem _ h2⟩
  have no : ∀ r', hitB (L.filter fun s => !decide (x ∈ s)) r' = true → hitB (L.filter fun s => !decide (x ∈ s)) (r'.filter fun y => !decide (y = x)) = true := fun r' h' => by
    rw [hitB_iff] at h' ⊢
    intro s hs
    obtain ⟨y, h1, h2⟩ := h' s hs
    have : x ∉ s := by simpa using (List.mem_filter.mp hs).2
    exact ⟨y, h1, List.mem_filter.mpr ⟨h2, by simp; exact fun e => this (e ▸ h1)⟩⟩
  have len : ∀ r', hitB (L.filter fun s => !decide (x ∈ s)) r' = true → r.length ≤ r'.length := fun r' h' => by
    have := h.len _ (up r' h')
    simpa using this
  refine ⟨hs.2, ?_, len, fun r' h1 h2 h3 => ?_⟩
  · rw [hitB_iff]
    intro s hs'
    obtain ⟨h4, h5⟩ := List.mem_filter.mp hs'
    obtain ⟨y, h6, h7⟩ := hitB_iff.mp h.hit s h4
    rcases List.mem_cons.mp h7 with rfl | h7
    · simp at h5; exact absurd h6 h5
    · exact ⟨y, h6, h7⟩
  · have hx : x ∉ r' := fun hc => by
      have l1 := len _ (no r' h2)
      have : (r'.filter fun y => !decide (y = x)).length < r'.length := List.length_filter_lt_length_iff_exists.mpr ⟨x, hc, by simp⟩
      omega
    have hnd : (x :: r').Nodup := List.nodup_cons.mpr ⟨hx, lt_nodup h1⟩
    have hsl := srt_lt hnd
    have hsm : ∀ y, y ∈ Z.srt (x :: r') ↔ y = x ∨ y ∈ r' := fun y => by rw [srt_mem, List.mem_cons]
    have hit : hitB L (Z.srt (x :: r')) = true := by
      have := up r' h2
      rw [hitB_iff] at this ⊢
      intro s hs
      obtain ⟨y, h4, h5⟩ := this s hs
      exact ⟨y, h4, by rw [hsm]; exact List.mem_cons.mp h5⟩
    have hl : (Z.srt (x :: r')).length = (x :: r).length := by rw [srt_len]; simp [h3]
    have tl : ∀ tl, Z.srt (x :: r') = x :: tl → tl = r' := fun tl e => by
      rw [e] at hsl hsm
      refine lt_unique (List.pairwise_cons.mp hsl).2 h1 fun y => ?_
      have hxt : x ∉ tl := fun hc => lO_asym ((List.pairwise_cons.mp hsl).1 x hc) ((List.pairwise_cons.mp hsl).1 x hc)
      have := hsm y
      rw [List.mem_cons] at this
      constructor
      · intro hy
        rcases this.mp (.inr hy) with e | e
        · subst e; exact absurd hy hxt
        · exact e
      · intro hy
        rcases this.mpr (.inr hy) with e | e
        · subst e; exact absurd hy hx
        · exact e
    rcases h.lex _ hsl hit hl with e | e
    · exact .inl (tl r e).symm
    · cases hc : Z.srt (x :: r') with
      | nil => rw [hc] at hl; cases hl
      | cons y tl0 =>
        by_cases c : y = x
        · subst c
          have := tl tl0 hc
          subst this
          rw [hc] at e
          unfold ltT at e
          rw [listLt, if_pos rfl] at e
          exact .inr e
        · rw [hc] at e hsl hsm
          unfold ltT at e
          rw [listLt, if_neg (fun z => c z.symm)] at e
          have hxm : x ∈ tl0 := by
            have := (hsm x).mpr (.inl rfl)
            rcases List.mem_cons.mp this with e2 | e2
            · exact absurd e2.symm c
            · exact e2
          exact (lO_asym e ((List.pairwise_cons.mp hsl).1 x hxm)).elim
end Z
namespace Z
open PySem PySem.W
/-! ### rows of places as bits; no three of them a flower -/
theorem bAnd_n (m n : Nat) : Builtin.bitAnd (m : Int) (n : Int) = ((m &&& n : Nat) : Int) := by
  rw [PyProof.Rows.bitAnd_pp (by omega) (by omega)]; rfl
theorem bOr_n (m n : Nat) : Builtin.bitOr (m : Int) (n : Int) = ((m ||| n : Nat) : Int) := by
  have hn : ∀ k : Nat, ¬ 0 ≤ Builtin.bitNot (k : Int) := fun k => by unfold Builtin.bitNot; omega
  have hb : ∀ z : Int, Builtin.bitNot (Builtin.bitNot z) = z := fun z => by unfold Builtin.bitNot; omega
  show Builtin.bitNot (Builtin.bitAnd (Builtin.bitNot ↑m) (Builtin.bitNot ↑n)) = _
  rw [PyProof.Rows.bitAnd_nn (hn m) (hn n), hb, hb, hb]; rfl
def bitsP (row : List Nat) : Nat := row.foldl (fun acc i => acc ||| 2 ^ i) 0
theorem bitsP_app (row : List Nat) (a : Nat) : bitsP (row ++ [a]) = bitsP row ||| 2 ^ a := by unfold bitsP; rw [List.foldl_append]; rfl
theorem bits_fold (i : Nat) : ∀ (row : List Nat) (x : Nat), (row.foldl (fun acc i => acc ||| 2 ^ i) x).testBit i = (x.testBit i || decide (i ∈ row))
  | [], x => by simp
  | a :: r, x => by
    rw [List.foldl_cons, bits_fold i r, Nat.testBit_or, Nat.testBit_two_pow]
    by_cases c : a = i
    · subst c; simp
    · have : ¬ i = a := fun e => c e.symm
      simp [c, this]
theorem bitsP_test (row : List Nat) (i : Nat) : (bitsP row).testBit i = decide (i ∈ row) := by unfold bitsP; rw [bits_fold]; simp
theorem bits_two (row : List Nat) (b c : Nat) : (bitsP row &&& (2 ^ b ||| 2 ^ c) = (2 ^ b ||| 2 ^ c)) ↔ b ∈ row ∧ c ∈ row := by
  constructor
  · intro h
    have h1 := congrArg (fun z => z.testBit b) h
    have h2 := congrArg (fun z => z.testBit c) h
    simp only [Nat.testBit_and, Nat.testBit_or, Nat.testBit_two_pow, bitsP_test] at h1 h2
    simp at h1 h2
    exact ⟨h1, h2⟩
  · rintro ⟨h1, h2⟩
    apply Nat.eq_of_testBit_eq
    intro i
    simp only [Nat.testBit_and, Nat.testBit_or, Nat.testBit_two_pow, bitsP_test]
    by_cases c1 : b = i
    · subst c1; simp [h1]
    · by_cases c2 : c = i
      · subst c2; simp [h2]
      · simp [c1, c2]
def o3 (L : List (List Str)) (a b c : Nat) : Bool := (coreO [sAt L c, sAt L b, sAt L a]).isSome
def twosB (L : List (List Str)) (a b : Nat) : List (Nat × Nat) := ((List.range b).filter fun c => o3 L a b c).map fun c => (b, c)
def twosP (L : List (List Str)) (a : Nat) : List (Nat × Nat) := (List.range a).flatMap (twosB L a)
def freeB (L : List (List Str)) (a : Nat) (row : List Nat) : Bool := !((twosP L a).any fun bc => decide (bc.1 ∈ row) && decide (bc.2 ∈ row))
def rows3 (L : List (List Str)) : Nat → List (List Nat)
  | 0 => [[]]
  | a + 1 => rows3 L a ++ ((rows3 L a).filter (freeB L a)).map fun r => r ++ [a]
theorem rows3_len (L : List (List Str)) : ∀ a, (rows3 L a).length ≤ 2 ^ a
  | 0 => by simp [rows3]
  | a + 1 => by
    have := rows3_len L a
    have h2 := List.length_filter_le (freeB L a) (rows3 L a)
    rw [rows3, List.length_append, List.length_map, Nat.pow_succ]; omega
theorem rows3_row (L : List (List Str)) : ∀ (a : Nat) (r : List Nat), r ∈ rows3 L a → r.length ≤ a ∧ ∀ i ∈ r, i < a
  | 0, r, h => by
    have : r = [] := by simpa [rows3] using h
    subst this; simp
  | a + 1, r, h => by
    rw [rows3, List.mem_append] at h
    rcases h with h | h
    · obtain ⟨h1, h2⟩ := rows3_row L a r h
      exact ⟨by omega, fun i hi => by have := h2 i hi; omega⟩
    · obtain ⟨q, hq, rfl⟩ := List.mem_map.mp h
      obtain ⟨h1, h2⟩ := rows3_row L a q (List.mem_filter.mp hq).1
      refine ⟨by simp; omega, fun i hi => ?_⟩
      rcases List.mem_append.mp hi with h | h
      · have := h2 i h; omega
      · have : i = a := by simpa using h
        omega
theorem rows3_pos (L : List (List Str)) : ∀ a, 0 < (rows3 L a).length
  | 0 => by simp [rows3]
  | a + 1 => by have := rows3_pos L a; rw [rows3, List.length_append]; omega
def IsMax (rows : List (List Nat)) (m : Int) : Prop := m ∈ rows.map (fun r => (r.length : Int)) ∧ ∀ y, y ∈ rows.map (fun r => (r.length : Int)) → y ≤ m
theorem IsMax.unique {rows : List (List Nat)} {a b : Int} (h1 : IsMax rows a) (h2 : IsMax rows b) : a = b := by
  have := h1.2 _ h2.1
  have := h2.2 _ h1.1
  omega
theorem intsD_map : ∀ ns : List Int, intsD (ns.map PyData.int) = some ns
  | [] => rfl
  | n :: ns => by
    have := intsD_map ns
    simp [intsD, this]
theorem run_max {ns : List Int} {Q : PyData → Prop} (h : 0 < ns.length) (q : ∀ m : Int, (m ∈ ns ∧ ∀ y, y ∈ ns → y ≤ m) → Q (.int m)) : (fMaxL [.list (ns.map .int)]).run Q := by
  unfold fMaxL
  simp only [intsD_map]
  exact ⟨h, q⟩
end Z
namespace Z
open PySem PySem.W PySem.Spec PyProof.Rows L2
/-! ### is True, is False -/
theorem is_bool_gen {prog : Program} {w : World} {A : Around} {Q : Value → Shared → Prop} {E : Value → Shared → Prop} {s : Shared} {v : Value} {b : Bool} (hv : ∀ i, v ≠ .builtin i) (h : Q (.bool (v == .bool b)) s) : wpAny (model prog w) A (compareOp .Is v (.bool b)) Q E s := by
  cases v <;> first | exact wpAny_pure h | exact absurd rfl (hv _)
theorem isnot_bool_gen {prog : Program} {w : World} {A : Around} {Q : Value → Shared → Prop} {E : Value → Shared → Prop} {s : Shared} {v : Value} {b : Bool} (hv : ∀ i, v ≠ .builtin i) (h : Q (.bool (!(v == .bool b))) s) : wpAny (model prog w) A (compareOp .IsNot v (.bool b)) Q E s := by
  cases v <;> first | exact wpAny_pure h | exact absurd rfl (hv _)
theorem op_isB {X : Cx} : OpR X (compareOp .Is) (fun x y H Q => ∃ b, y = .bl b ∧ Q (.bl (decide (x = .bl b))) H) := by
  intro pins s σ H x y v u Q I rx ry h
  obtain ⟨b, rfl, q⟩ := h
  cases ry
  refine is_bool_gen ?_ (fin_bl I q ?_)
  · intro i
    cases x <;> first
      | (obtain ⟨t, rfl⟩ := rx; exact fun e => (by cases e))
      | (cases rx; exact fun e => (by cases e))
  · cases x <;> first
      | (cases rx; rfl)
      | (obtain ⟨t, rfl⟩ := rx; rfl)
      | (cases rx; rename_i c; cases c <;> cases b <;> rfl)
theorem op_isNotB {X : Cx} : OpR X (compareOp .IsNot) (fun x y H Q => ∃ b, y = .bl b ∧ Q (.bl (!decide (x = .bl b))) H) := by
  intro pins s σ H x y v u Q I rx ry h
  obtain ⟨b, rfl, q⟩ := h
  cases ry
  refine isnot_bool_gen ?_ (fin_bl I q ?_)
  · intro i
    cases x <;> first
      | (obtain ⟨t, rfl⟩ := rx; exact fun e => (by cases e))
      | (cases rx; exact fun e => (by cases e))
  · cases x <;> first
      | (cases rx; rfl)
      | (obtain ⟨t, rfl⟩ := rx; rfl)
      | (cases rx; rename_i c; cases c <;> cases b <;> rfl)
def isB (b : Bool) : PyData → Bool
  | .bool c => c == b
  | _ => false
theorem dp_isB {K : PySem.W.Frag} {G : Hp} {v : V} {d : PyData} {b : Bool} (h : Dp K G v d) : decide (v = .bl b) = isB b d := by
  cases h <;> first
    | rfl
    | (rename_i c; cases c <;> cases b <;> rfl)
def fIsB (a y : PyData) : W PyData := match y with
  | .bool b => pure (.bool (isB b a))
  | _ => W.fail
def fIsNotB (a y : PyData) : W PyData := match y with
  | .bool b => pure (.bool (!isB b a))
  | _ => W.fail
theorem oj_isB [PoC] {K : PySem.W.Frag} : OJ K (fun x y H Q => ∃ b, y = .bl b ∧ Q (.bl (decide (x = .bl b))) H) fIsB := by
  intro G H x y dx dy ex hx hy Q q
  cases dy with
  | bool b => cases hy; exact ⟨b, rfl, by rw [dp_isB hx]; exact q _ G H .same (.bl _)⟩
  | _ => exact q.elim
theorem oj_isNotB [PoC] {K : PySem.W.Frag} : OJ K (fun x y H Q => ∃ b, y = .bl b ∧ Q (.bl (!decide (x = .bl b))) H) fIsNotB := by
  intro G H x y dx dy ex hx hy Q q
  cases dy with
  | bool b => cases hy; exact ⟨b, rfl, by rw [dp_isB hx]; exact q _ G H .same (.bl _)⟩
  | _ => exact q.elim
@[simp] theorem fIsB_b (a : PyData) (b : Bool) : fIsB a (.bool b) = pure (.bool (isB b a)) := rfl
@[simp] theorem fIsNotB_b (a : PyData) (b : Bool) : fIsNotB a (.bool b) = pure (.bool (!isB b a)) := rfl
@[simp] theorem isB_b (b c : Bool) : isB b (.bool c) = (c == b) := rfl
end Z
namespace L2
open PySem PySem.Spec PyProof.Rows
/-! ### a tuple times 1 and times 0 -/
theorem tuple_mul1 (l : Addr) (items : Array Value) (n : Nat) (dd : Option Addr) (sl : Array (Option Value)) (u : Tok) :
    Meets (Builtin.«tuple.__mul__» ⟨[.ref l, .int 1 u], []⟩) (fun _ R s => s.heap.get? l = some { cls := .type "tuple", dict := dd, data := .seq items n, slots := sl } ∧
      R (.ok (.ret (Value.ref l))) s) :=
  .of_wp fun prog w A R s h => by
    obtain ⟨hp, g, d, tk, os⟩ := s
    obtain ⟨hl, h⟩ := h
    have f1 := AutoSeq1.idx_int
    have c1 : (items.isEmpty || (1 : Int) == 1) = true := by simp
    wp_walk using wpAny_loadPart' hl
    exact ⟨_, rfl, h⟩
theorem tuple_mul0 (l : Addr) (items : Array Value) (n : Nat) (dd : Option Addr) (sl : Array (Option Value)) (u : Tok) (c1 : (items.isEmpty || (0 : Int) == 1) = false) :
    Meets (Builtin.«tuple.__mul__» ⟨[.ref l, .int 0 u], []⟩) (fun _ R s => s.heap.get? l = some { cls := .type "tuple", dict := dd, data := .seq items n, slots := sl } ∧
      R (.ok (.ret (Value.ref s.heap.objs.size))) { s with heap := s.heap.push { cls := Value.type "tuple", data := Data.seq #[] }, toks := s.toks }) :=
  .of_wp fun prog w A R s h => by
    obtain ⟨hp, g, d, tk, os⟩ := s
    obtain ⟨hl, h⟩ := h
    have f1 := AutoSeq1.idx_int
    wp_walk using wpAny_loadPart' hl
    refine wpAny_ite_false (decide_eq_false (by rw [c1]; exact Bool.false_ne_true)) ?_
    have c2 : (decide ((0 : Int) ≤ 0) || items.isEmpty) = true := by simp
    wp_walk using wpAny_loadPart' hl
    exact ⟨_, rfl, h⟩
def rRep01 (K : PySem.W.Frag) : R2 := fun x y H Q => ∃ l k xs, x = .ref l ∧ y = .int k ∧ SqT K H l xs ∧ xs ≠ [] ∧ ((k = 1 ∧ Q (.ref l) H) ∨ (k = 0 ∧ ∀ p, H p = none → Q (.ref p) (upd H p (.tup []))))
section
variable {X : Cx}
theorem op_rep01 : OpR X (binaryOp .Mult) (rRep01 X.K) := by
  intro pins s σ H x y v u Q I rx ry h
  obtain ⟨l, k, xs, rfl, rfl, hT, hne, q⟩ := h
  cases rx
  obtain ⟨t, rfl⟩ := ry
  obtain ⟨its, r, ⟨⟨cls, dd, data, sl⟩, ho, hc, n, hd⟩, hs⟩ := I.tuple hT
  simp only at hc hd
  subst hc hd
  have hle : its.length = xs.length := r.length.symm
  have hn : its ≠ [] := fun e => hne (by
    rw [e] at hle
    exact List.eq_nil_of_length_eq_zero hle.symm)
  have hi : its.toArray.isEmpty = false := by
    cases its with
    | nil => exact absurd rfl hn
    | cons a b => rfl
  rcases q with ⟨rfl, q⟩ | ⟨rfl, q⟩
  · refine wpAny_binaryOp_repeat_ref (T := "tuple") (U := "int") (by decide) ⟨_, ho, rfl⟩ (fun s' => typeIs_int s' 1 t) noFill_tuple_mul F.fills_int_mul F.slot_int_rmul repeat_tuple F.slot_int_index.lookup
      (call_meets F.slot_int_rmul (typeIs_int s 1 t) F.entry_int_rmul (F.args_int_rmul_2 _ _) (int_rmul_tuple 1 t l its.toArray n dd sl)
        ⟨ho, rfl, ⟨_, ho, rfl⟩, call_meets F.slot_tuple_mul ⟨_, ho, rfl⟩ F.entry_tuple_mul (F.args_tuple_mul_2 _ _) (tuple_mul1 l its.toArray n dd sl t) ⟨ho, ?_⟩⟩)
    exact ⟨.ref l, _, I, rfl, q⟩
  · have c1 : (its.toArray.isEmpty || (0 : Int) == 1) = false := by rw [hi]; rfl
    refine wpAny_binaryOp_repeat_ref (T := "tuple") (U := "int") (by decide) ⟨_, ho, rfl⟩ (fun s' => typeIs_int s' 0 t) noFill_tuple_mul F.fills_int_mul F.slot_int_rmul repeat_tuple F.slot_int_index.lookup
      (call_meets F.slot_int_rmul (typeIs_int s 0 t) F.entry_int_rmul (F.args_int_rmul_2 _ _) (int_rmul_tuple 0 t l its.toArray n dd sl)
        ⟨ho, rfl, ⟨_, ho, rfl⟩, call_meets F.slot_tuple_mul ⟨_, ho, rfl⟩ F.entry_tuple_mul (F.args_tuple_mul_2 _ _) (tuple_mul0 l its.toArray n dd sl t c1) ⟨ho, ?_⟩⟩)
    refine ⟨.ref s.heap.objs.size, _, I.laid (t' := s.toks) (o := .tup []) (fun b ob q => Heap.get?_push_of_some _ q) (Nat.le_refl _) ?_, rfl, q _ (I.hok.fresh (Nat.le_refl _))⟩
    exact ⟨by rw [sizeLine_eq]; decide, [], .nil, IsTup.new _ _⟩
end
end L2
namespace Z
open PySem PySem.W PySem.Spec PyProof.Rows L2
open Evl (Ex fresh_back)
def fRep01 (a b : PyData) : W PyData := match a, b with
  | .tuple ds, .int k => do W.need (ds ≠ [] ∧ (k = 0 ∨ k = 1)); pure (.tuple (if k = 1 then ds else []))
  | _, _ => W.fail
theorem oj_rep01 [PoC] {K : PySem.W.Frag} : OJ K (rRep01 K) fRep01 := by
  intro G H x y dx dy ex hx hy Q q
  cases dx with
  | tuple ds =>
    cases dy with
    | int k =>
      cases hy
      obtain ⟨p, vs, rfl, h1, h2⟩ := dp_tup hx
      obtain ⟨⟨hne, hk⟩, q⟩ := q
      refine ⟨p, k, vs, rfl, rfl, ex_t ex h1, fun e => hne ?_, ?_⟩
      · subst e; cases h2; rfl
      · rcases hk with rfl | rfl
        · refine .inr ⟨rfl, fun l hl => ?_⟩
          exact q _ _ _ (.new hl) (.tup (Or.inl (Or.inl upd_same)) .nil)
        · exact .inl ⟨rfl, q _ G H .same hx⟩
    | _ => exact q.elim
  | _ => exact q.elim
@[simp] theorem fRep01_t (ds : List PyData) (k : Int) (Q : PyData → Prop) : (fRep01 (.tuple ds) (.int k)).run Q = ((ds ≠ [] ∧ (k = 0 ∨ k = 1)) ∧ Q (.tuple (if k = 1 then ds else []))) := rfl
end Z
namespace PySem
open PySem.W
section
variable {prog : Program} {w : World} {A : Around} {s : Shared} {E : Value → Shared → Prop}
/-- min over data, and which of the items it is -/
theorem min_list_which {l : Addr} {vs : Array Value} {x : PyData} {xs : List PyData} {as : List Addr} {Q : Value → Shared → Prop} (hh : A.handled = none) (hl : s.heap.IsList l vs) (hr : ReadsAll s.heap vs.toList (x :: xs) as) (ha : AlikeAll (x :: xs)) (hu : A.units + 1 + PyData.depthAll (x :: xs) < cLine)
    (h : ∀ (i : Nat) v h' tk, vs[i]? = some v → (x :: xs)[i]? = some (minD x xs) → (∀ b o, s.heap.get? b = some o → h'.get? b = some o) → Q v { s with heap := h', toks := tk }) :
    wpAny (model prog w) A (call (.builtin "min") [.ref l]) Q E s := by
  have hn : vs.size = xs.length + 1 := readsAll_len hr
  refine call_min_walkH (iter_listW (A := A.in1) hh hl fun s₂ e W st hfp hw hk => ?_)
  refine ⟨_, _, _, _, _, _, _, s.heap, _, rfl, W, st, hfp, by omega, hw, hk, cmpIn_lt (A := A.in1) hr ha (by show A.units + 1 + _ < _; exact hu), fun v s' hP m => ?_⟩
  obtain ⟨h', tk, rfl, hk'⟩ := moved_old e rfl m
  have e1 : vs.size - 1 = xs.length := by omega
  obtain ⟨e3, e2⟩ := argBest_fold dataLt PyData.none x xs xs.length (Nat.le_refl _)
  rw [List.take_length] at e2
  rw [e1] at hP
  refine h _ v h' tk hP ?_ hk'
  have hlt : argBest (fun i j => dataLt ((x :: xs).getD i .none) ((x :: xs).getD j .none)) xs.length < (x :: xs).length := by rw [List.length_cons]; omega
  unfold minD
  rw [← e2, List.getD_eq_getElem?_getD, List.getElem?_eq_getElem hlt]; rfl
end
end PySem
namespace Z
open PySem PySem.W PySem.Spec PyProof.Rows L2
open Evl (Ex fresh_back)
def rMinD (K : PySem.W.Frag) : List V → Hp → VK → Prop := fun vs H Q => ∃ (a : Addr) (ys : List V) (x : PyData) (xs : List PyData), vs = [V.ref a] ∧ SqL K H a ys ∧ Dp K H (.ref a) (.list (x :: xs)) ∧ DpAll K H ys (x :: xs) ∧ AlikeAll (x :: xs) ∧ PyData.depthAll (x :: xs) ≤ 60 ∧
  ∀ (i : Nat) y, ys[i]? = some y → (x :: xs)[i]? = some (minD x xs) → Q y H
theorem cr_minD [PoC] {X : Cx} (hc : X.calm = true) (hu : X.A.units + 64 < cLine) : CallR X (.builtin "min") (rMinD X.K) := by
  intro pins s σ H vs us Q I r h
  obtain ⟨a, ys, x, xs, rfl, hs, hd, hda, hal, hz, q⟩ := h
  obtain ⟨its, rv, hl, _⟩ := I.list hs
  rw [Vals.ref1 r]
  obtain ⟨as, r1⟩ := Dp.reads I (.list (x :: xs)) (.ref a) (.ref a) (dp0 hd) rfl
  cases r1 with
  | list g c e ra =>
    obtain ⟨o, n, g', c', _, e'⟩ := hl
    rw [g] at g'
    cases g'
    rw [e] at e'
    cases e'
    refine min_list_which (I.ok.hd hc) ⟨_, g, c, _, e⟩ ra hal (by omega) fun i v h' tk hv hx hk => ?_
    obtain ⟨y, hy, hyd⟩ := dpa_get hda hx
    obtain ⟨u, hu2, ru⟩ := rv.get hy
    have : u = v := by
      have h9 : its.toArray[i]? = some v := hv
      rw [List.getElem?_toArray] at h9
      rw [h9] at hu2
      exact (Option.some.inj hu2).symm
    subst this
    exact ⟨y, H, I.kept hk, ru, q i y hy hx⟩
def fMinD : List PyData → W PyData
  | [.list (x :: xs)] => do W.need (AlikeAll (x :: xs) ∧ PyData.depthAll (x :: xs) ≤ 60); pure (minD x xs)
  | _ => W.fail
theorem cj_minD [PoC] {K : PySem.W.Frag} : CJ K (rMinD K) fMinD := by
  intro G H vs ds ex h Q q
  match ds, h, q with
  | [.list (x :: xs)], h, q =>
    obtain ⟨v, rfl, hv⟩ := dpa_one h
    obtain ⟨p, vs, rfl, h1, h2⟩ := dp_lst hv
    refine ⟨p, vs, x, xs, rfl, ex_l ex h1, dp_ex ex hv, dpa_ex ex h2, q.1.1, q.1.2, fun i y hy hx => ?_⟩
    obtain ⟨d, hd, hyd⟩ := dpa_get2 h2 hy
    rw [hx] at hd
    cases hd
    exact q.2 _ G H .same hyd
@[simp] theorem fMinD_c (x : PyData) (xs : List PyData) (Q : PyData → Prop) : (fMinD [.list (x :: xs)]).run Q = ((AlikeAll (x :: xs) ∧ PyData.depthAll (x :: xs) ≤ 60) ∧ Q (minD x xs)) := rfl
end Z
namespace Z
open PySem PySem.W PySem.Spec PyProof.Rows L2
open Evl (Ex fresh_back)
/-! ### xs.count(x) over data -/
def cntD (ds : List PyData) (d : PyData) : Nat := ds.countP fun y => PyData.eqv y d
def rCntD [PoC] (K : PySem.W.Frag) : V → List V → Hp → VK → Prop := fun x xs H Q => ∃ y d ds, xs = [y] ∧ Dp K H y d ∧ Dp K H x (.list ds) ∧ plOk (.list ds) = true ∧ plOk d = true ∧ Q (.int (cntD ds d : Nat)) H
theorem mt_countD [PoC] {X : Cx} (hu : X.A.units + 65 < cLine) : MtR X "list.count" (rCntD X.K) := by
  intro pins s σ H x xs v us Q I rx rxs h
  obtain ⟨y, d, ds, rfl, hd, hx, sl, sd, q⟩ := h
  obtain ⟨u, rfl, ru⟩ := rxs.one
  obtain ⟨as, r1⟩ := Dp.reads I d y u (dp0 hd) ru
  obtain ⟨bs, r2⟩ := Dp.reads I (.list ds) x v (dp0 hx) rx
  cases r2 with
  | list g c e ra =>
    refine PySem.SeqAt.count_list_data ⟨_, g, c, _, e⟩ ra r1 (plAll sl) (plOk.pl sd) (room_pl sd hu) ?_
    exact ⟨.int (cntD ds d : Nat), H, I.tok _, ⟨s.toks, rfl⟩, q⟩
def asLsD : PyData → W (List PyData)
  | .list ds => pure ds
  | _ => W.fail
theorem asLsD_run {d : PyData} {Q : List PyData → Prop} (h : (asLsD d).run Q) : ∃ ds, d = .list ds ∧ Q ds := by
  cases d with
  | list a => exact ⟨a, rfl, h⟩
  | _ => exact h.elim
def fCount (ds : List PyData) (b : PyData) : W PyData := do W.need (plOk (.list ds) = true ∧ plOk b = true); pure (.int (cntD ds b : Nat))
def mCount (mo ma : Env → W PyData) : Env → W PyData := fun env => do let ds ← asLsD (← mo env); let b ← ma env; fCount ds b
section
variable [PoC] {K : PySem.W.Frag}
theorem tj_count {to ta : TE} {mo ma : Env → W PyData} (ho : TJ K to mo) (ha : TJ K ta ma) : TJ K (tBM K "list" (rCntD K) to (tCons ta tNil)) (mCount mo ma) := fun B G env σ H ok Q q =>
  ho B G env σ H ok _ ((mo env).mono (fun d q1 v G1 H1 e1 f1 d1 => by
    obtain ⟨ds, rfl, q1⟩ := asLsD_run q1
    obtain ⟨p, vs, rfl, h1, h2⟩ := dp_lst d1
    refine ⟨.inl ⟨rfl, vs, ex_l f1.ex h1⟩, ha B G1 env σ H1 (ok.go e1 f1) _ ((ma env).mono (fun b q2 u G2 H2 e2 f2 d2 => ?_) q1)⟩
    exact ⟨u, b, ds, rfl, dp_ex f2.ex d2, dp_ex f2.ex (dp_ex e2 d1), q2.1.1, q2.1.2, q2.2 _ G2 H2 (e1.trans e2) f2 (.int _)⟩) q)
end
@[simp] theorem fCount_r (ds : List PyData) (b : PyData) (Q : PyData → Prop) : (fCount ds b).run Q = ((plOk (.list ds) = true ∧ plOk b = true) ∧ Q (.int (cntD ds b : Nat))) := rfl
@[simp] theorem r_mCount {mo ma : Env → W PyData} {e : Env} {Q : PyData → Prop} : (mCount mo ma e).run Q = (mo e).run fun a => (asLsD a).run fun ds => (ma e).run fun b => (fCount ds b).run Q := rfl
@[simp] theorem asLsD_l (ds : List PyData) : asLsD (.list ds) = pure ds := rfl
end Z
namespace Z
open PySem PySem.W PySem.Spec PyProof.Rows L2
open Evl (Ex fresh_back)
/-! ### a text times a number -/
def rMulS : R2 := fun x y H Q => ∃ s n, x = .str s ∧ y = .int n ∧ MulOk s n ∧ Q (.str (Txt.mul s n)) H
theorem op_mulS {X : Cx} : OpR X (binaryOp .Mult) rMulS := by
  intro pins s σ H x y v u Q I rx ry h
  obtain ⟨i, n, rfl, rfl, hz, q⟩ := h
  obtain ⟨t, rfl⟩ := rx
  obtain ⟨t', rfl⟩ := ry
  exact SB.mul hz (fun t' tk => ⟨.str (Txt.mul i n), H, I.tok _, ⟨_, rfl⟩, q⟩)
def fMulS (a b : PyData) : W PyData := match a, b with
  | .str s, .int n => do W.need (MulOk s n); pure (.str (Txt.mul s n))
  | _, _ => W.fail
theorem oj_mulS [PoC] {K : PySem.W.Frag} : OJ K rMulS fMulS := by
  intro G H x y dx dy ex hx hy Q q
  cases dx with
  | str s =>
    cases dy with
    | int n => cases hx; cases hy; exact ⟨s, n, rfl, rfl, q.1, q.2 _ G H .same (.str _)⟩
    | _ => exact q.elim
  | _ => exact q.elim
@[simp] theorem fMulS_s (s : Str) (n : Int) (Q : PyData → Prop) : (fMulS (.str s) (.int n)).run Q = (MulOk s n ∧ Q (.str (Txt.mul s n))) := rfl
/-! ### dict(pairs): a new dict -/
def pairK : PyData → Option (Key × PyData)
  | .tuple [.str s, d] => some (.inr s, d)
  | .tuple [.int i, d] => some (.inl i, d)
  | _ => none
def pairsK : List PyData → Option (List (Key × PyData))
  | [] => some []
  | d :: r => match pairK d, pairsK r with
    | some p, some ps => some (p :: ps)
    | _, _ => none
def rDictP (K : PySem.W.Frag) : List V → Hp → VK → Prop := fun xs H Q => ∃ (a : Addr) (ps : List Addr) (kvs : List (Key × V)), xs = [.ref a] ∧ SqL K H a (ps.map V.ref) ∧ Paired (fun p kv => SqT K H p [kV kv.1, kv.2]) ps kvs ∧
    ∀ p, H p = none → Q (.ref p) (upd H p (.dK (mergeK [] kvs)))
theorem cr_dictP {X : Cx} (hc : X.calm = true) : CallR X (.type "dict") (rDictP X.K) := call_dictP hc
section
variable [PoC] {K : PySem.W.Frag}
theorem pair_dp {G : Hp} {v : V} {d : PyData} {q : Key × PyData} (h : Dp K G v d) (e : pairK d = some q) : ∃ p y, v = .ref p ∧ SqT K0 G p [kV q.1, y] ∧ Dp K G y q.2 := by
  unfold pairK at e
  split at e
  · cases e
    obtain ⟨p, vs, rfl, h1, h2⟩ := dp_tup h
    cases h2 with
    | cons a r => cases r with
      | cons b r2 => cases r2; cases a; exact ⟨p, _, rfl, h1, b⟩
  · cases e
    obtain ⟨p, vs, rfl, h1, h2⟩ := dp_tup h
    cases h2 with
    | cons a r => cases r with
      | cons b r2 => cases r2; cases a; exact ⟨p, _, rfl, h1, b⟩
  · cases e
theorem pairs_dp {G : Hp} : ∀ {vs : List V} {ds : List PyData} {qs : List (Key × PyData)}, DpAll K G vs ds → pairsK ds = some qs → ∃ (ps : List Addr) (kvs : List (Key × V)), vs = ps.map V.ref ∧ Paired (fun p kv => SqT K0 G p [kV kv.1, kv.2]) ps kvs ∧ KVD K G kvs qs
  | _, [], qs, .nil, e => by cases e; exact ⟨[], [], rfl, .nil, .nil⟩
  | _, d :: r, qs, .cons a h, e => by
    unfold pairsK at e
    split at e
    · rename_i q qs' e1 e2
      cases e
      obtain ⟨p, y, rfl, h1, h2⟩ := pair_dp (show Dp K G _ d from a) e1
      obtain ⟨ps, kvs, rfl, h3, h4⟩ := pairs_dp (show DpAll K G _ r from h) e2
      exact ⟨p :: ps, (q.1, y) :: kvs, rfl, .cons h1 h3, .cons ⟨rfl, h2⟩ h4⟩
    · cases e
def mergeP (acc : List (Key × PyData)) (qs : List (Key × PyData)) : List (Key × PyData) := qs.foldl (fun a q => putP a q.1 q.2) acc
theorem merge_dp {G : Hp} : ∀ {kvs : List (Key × V)} {qs : List (Key × PyData)} {a : List (Key × V)} {b : List (Key × PyData)}, KVD K G a b → KVD K G kvs qs → KVD K G (mergeK a kvs) (mergeP b qs)
  | [], [], a, b, h, _ => h
  | [], _ :: _, _, _, _, h => by cases h
  | _ :: _, [], _, _, _, h => by cases h
  | kv :: kvs, q :: qs, a, b, h, .cons h1 h2 => by
    obtain ⟨k, y⟩ := kv
    obtain ⟨k', d⟩ := q
    obtain ⟨e, hd⟩ := h1
    simp only at e hd
    subst e
    exact merge_dp (a := putK a k y) (b := putP b k d) (kvd_put hd h) h2
def TJK (K : PySem.W.Frag) (te : TE) (m : Env → W (List (Key × PyData))) : Prop :=
  ∀ (B : Ba) (G : Hp) (env : Env) (σ : L2.St) (H : Hp), ROk K B G env σ H → ∀ Q : VK,
    ((m env).run fun kvs => ∀ p es G' H', Ex G G' → Fra B G' H' → B.H p = none → G' p = none → H' p = some (.dK es) → KVD K G' es kvs → Q (.ref p) H') → te σ H Q
def fDictP : List PyData → W (List (Key × PyData))
  | [.list ds] => match pairsK ds with
    | some qs => pure (mergeP [] qs)
    | none => W.fail
  | _ => W.fail
def mDictP (ma : Env → W (List PyData)) : Env → W (List (Key × PyData)) := fun env => do let ds ← ma env; fDictP ds
theorem tjk_dictP {ta : TA} {ma : Env → W (List PyData)} (h : TJD K ta ma) : TJK K (tCB (rDictP K) ta) (mDictP ma) := fun B G env σ H ok Q q =>
  h B G env σ H ok _ ((ma env).mono (fun ds q1 vs G1 H1 e1 f1 d1 => by
    match ds, d1, q1 with
    | [.list ds], d1, q1 =>
      obtain ⟨v, rfl, hv⟩ := dpa_one d1
      obtain ⟨a, us, rfl, h1, h2⟩ := dp_lst hv
      simp only [fDictP] at q1
      cases c : pairsK ds with
      | none => rw [c] at q1; exact q1.elim
      | some qs =>
        rw [c] at q1
        obtain ⟨ps, kvs, rfl, h3, h4⟩ := pairs_dp h2 c
        refine ⟨a, ps, kvs, rfl, ex_l f1.ex h1, L2.Paired.mapP h3 fun _ _ z => ex_t f1.ex z, fun p hp => ?_⟩
        exact q1 p _ G1 _ e1 (f1.lay hp) (f1.free hp) (fresh_back f1.ex hp) upd_same (merge_dp .nil h4)) q)
def sAsgK (i : Nat) (mk : Env → W (List (Key × PyData))) : Ms := fun env => do let kvs ← mk env; pure (.nx, env.set i (.dK kvs))
theorem Ok.evK {B : Ba} {G H : Hp} {fps : Fps} {env : Env} {σ : L2.St} {te : TE} {mk : Env → W (List (Key × PyData))} (ok : Ok K B G fps env σ H) (h : TJK K te mk) {Q : VK}
    (q : (mk env).run fun kvs => ∀ p es G' H', Ex G G' → Ok K B G' fps env σ H' → H p = none → G' p = none → H' p = some (.dK es) → KVD K G' es kvs → Q (.ref p) H') : te σ H Q :=
  h _ G env σ H ok.view Q ((mk env).mono (fun kvs k p es G' H' e f h0 hg hp hd => k p es G' H' e (ok.back f) h0 hg hp hd) q)
theorem tjs_asgK {M : Ba → Prop} {te : TE} {mk : Env → W (List (Key × PyData))} {i : Nat} (h : TJK K te mk) : TJS M K (tAsg te (gName i)) (sAsgK i mk) := fun B G fps env σ H ok hm D q =>
  ok.evK h ((mk env).mono (fun kvs k p es G' H' e ok' h0 hg hp dv => k G' _ _ H' e (ok'.put (i := i) (f := some p) (s := .dK kvs) (o := some (.ref p))
    ⟨p, es, rfl, rfl, ⟨hg, .inr (ok.fra.free h0), fun q hq ha => ok.fra.opH q hq p ha (ok.fra.free h0)⟩, hp, dv⟩ (fun p' j z hj => by cases z; exact absurd hj (ok.fps_ne h0 j)))) q)
end
@[simp] theorem r_sAsgK {i : Nat} {mk : Env → W (List (Key × PyData))} {e : Env} {Q : Fl × Env → Prop} : (sAsgK i mk e).run Q = (mk e).run fun kvs => Q (.nx, e.set i (.dK kvs)) := rfl
@[simp] theorem r_mDictP {ma : Env → W (List PyData)} {e : Env} {Q : List (Key × PyData) → Prop} : (mDictP ma e).run Q = (ma e).run fun ds => (fDictP ds).run Q := rfl
theorem fDictP_run {ds : List PyData} {qs : List (Key × PyData)} (h : pairsK ds = some qs) (Q : List (Key × PyData) → Prop) : (fDictP [.list ds]).run Q = Q (mergeP [] qs) := by
  unfold fDictP
  simp only [h]
  rfl
theorem pairsK_map {α : Type} (key : α → Str) (val : α → PyData) : ∀ xs : List α, pairsK (xs.map fun x => PyData.tuple [.str (key x), val x]) = some (xs.map fun x => (Sum.inr (key x), val x))
  | [] => rfl
  | x :: r => by
    rw [List.map_cons, pairsK, pairsK_map key val r]
    rfl
/-- unlike keys: the pairs as they stand -/
theorem mergeP_new : ∀ {qs acc : List (Key × PyData)}, (acc ++ qs).Pairwise (fun a b => a.1 ≠ b.1) → mergeP acc qs = acc ++ qs
  | [], acc, _ => by simp [mergeP]
  | q :: qs, acc, h => by
    have h1 : (acc ++ [q] ++ qs).Pairwise (fun a b => a.1 ≠ b.1) := by simpa using h
    have e : putP acc q.1 q.2 = acc ++ [q] := by
      unfold putP
      rw [if_neg]
      rw [List.any_eq_true]
      rintro ⟨p, hp, hk⟩
      rw [List.pairwise_append] at h
      exact h.2.2 p hp q (by simp) (by simpa using hk)
    show mergeP (putP acc q.1 q.2) qs = _
    rw [e, mergeP_new h1]
    simp
/-- reading what was put in -/
theorem lookP_map {α : Type} (key : α → Str) (val : α → PyData) : ∀ {xs : List α} {x : α}, x ∈ xs → (∀ a ∈ xs, ∀ b ∈ xs, key a = key b → a = b) → lookP (xs.map fun x => ((Sum.inr (key x) : Key), val x)) (.inr (key x)) = some (val x)
  | [], _, h, _ => by cases h
  | y :: r, x, h, hi => by
    rw [List.map_cons]
    unfold lookP
    by_cases c : key y = key x
    · have := hi y (List.mem_cons_self ..) x h c
      subst this
      simp
    · have hx : x ∈ r := by
        rcases List.mem_cons.mp h with e | e
        · subst e; exact absurd rfl c
        · exact e
      have ih := lookP_map key val hx fun a ha b hb => hi a (List.mem_cons_of_mem _ ha) b (List.mem_cons_of_mem _ hb)
      unfold lookP at ih
      rw [List.find?_cons_of_neg (by simpa using c)]
      exact ih
end Z
namespace Z
open PySem PySem.W PySem.Spec PyProof.Rows L2
open Evl (Ex fresh_back)
/-! ### list(range(..)), tuple(range(..)) -/
section
variable [PoC] {K : PySem.W.Frag}
theorem dpa_rg {G : Hp} (a b : Int) : DpAll K G (rgV a b) (rgD a (b - a).toNat) := by
  unfold rgV rgD
  generalize (List.range (b - a).toNat) = l
  induction l with
  | nil => exact .nil
  | cons x r ih => rw [List.map_cons, List.map_cons]; exact .cons (.int _) ih
def asI : PyData → W Int
  | .int i => pure i
  | _ => W.fail
theorem asI_run {d : PyData} {Q : Int → Prop} (h : (asI d).run Q) : ∃ i, d = .int i ∧ Q i := by
  cases d with
  | int i => exact ⟨i, rfl, h⟩
  | _ => exact h.elim
def mLstRg1 (m : Env → W PyData) : Env → W (List PyData) := fun env => do let n ← asI (← m env); W.need (RgOk 0 n); pure (rgD 0 n.toNat)
def mLstRg2 (m m' : Env → W PyData) : Env → W (List PyData) := fun env => do let a ← asI (← m env); let b ← asI (← m' env); W.need (RgOk a b); pure (rgD a (b - a).toNat)
theorem tjl_listRg1 {ta : TE} {m : Env → W PyData} (h : TJ K ta m) : TJL K (tLstRg (tRg1 ta)) (mLstRg1 m) := fun B G env σ H ok Q q =>
  h B G env σ H ok _ ((m env).mono (fun d q1 v G1 H1 e1 f1 d1 => by
    obtain ⟨n, rfl, q1⟩ := asI_run q1
    cases d1
    refine ⟨n, rfl, q1.1, fun p hp => q1.2 p _ G1 _ e1 (f1.lay hp) (f1.free hp) (fresh_back f1.ex hp) upd_same ?_⟩
    have := dpa_rg (K := K) (G := G1) 0 n
    rwa [Int.sub_zero] at this) q)
theorem tjl_listRg2 {ta tb : TE} {m m' : Env → W PyData} (h : TJ K ta m) (h' : TJ K tb m') : TJL K (tLstRg (tRg2 ta tb)) (mLstRg2 m m') := fun B G env σ H ok Q q =>
  h B G env σ H ok _ ((m env).mono (fun d q1 v G1 H1 e1 f1 d1 => by
    obtain ⟨a, rfl, q1⟩ := asI_run q1
    cases d1
    refine h' B G1 env σ H1 (ok.go e1 f1) _ ((m' env).mono (fun d' q2 u G2 H2 e2 f2 d2 => ?_) q1)
    obtain ⟨b, rfl, q2⟩ := asI_run q2
    cases d2
    exact ⟨a, b, rfl, rfl, q2.1, fun p hp => q2.2 p _ G2 _ (e1.trans e2) (f2.lay hp) (f2.free hp) (fresh_back f2.ex hp) upd_same (dpa_rg (K := K) a b)⟩) q)
def mTupRg1 (m : Env → W PyData) : Env → W PyData := fun env => do let n ← asI (← m env); W.need (RgOk 0 n); pure (.tuple (rgD 0 n.toNat))
def mTupRg2 (m m' : Env → W PyData) : Env → W PyData := fun env => do let a ← asI (← m env); let b ← asI (← m' env); W.need (RgOk a b); pure (.tuple (rgD a (b - a).toNat))
theorem tj_tupRg1 {ta : TE} {m : Env → W PyData} (h : TJ K ta m) : TJ K (tTupRg (tRg1 ta)) (mTupRg1 m) := fun B G env σ H ok Q q =>
  h B G env σ H ok _ ((m env).mono (fun d q1 v G1 H1 e1 f1 d1 => by
    obtain ⟨n, rfl, q1⟩ := asI_run q1
    cases d1
    refine ⟨n, rfl, q1.1, fun p hp => ?_⟩
    obtain ⟨f2, e2, g2⟩ := f1.alloc (o := .tup (rgV 0 n)) hp
    have := dpa_rg (K := K) (G := upd G1 p (.tup (rgV 0 n))) 0 n
    rw [Int.sub_zero] at this
    exact q1.2 (.ref p) _ _ (e1.trans e2) f2 (.tup (Or.inl (Or.inl upd_same)) this)) q)
theorem tj_tupRg2 {ta tb : TE} {m m' : Env → W PyData} (h : TJ K ta m) (h' : TJ K tb m') : TJ K (tTupRg (tRg2 ta tb)) (mTupRg2 m m') := fun B G env σ H ok Q q =>
  h B G env σ H ok _ ((m env).mono (fun d q1 v G1 H1 e1 f1 d1 => by
    obtain ⟨a, rfl, q1⟩ := asI_run q1
    cases d1
    refine h' B G1 env σ H1 (ok.go e1 f1) _ ((m' env).mono (fun d' q2 u G2 H2 e2 f2 d2 => ?_) q1)
    obtain ⟨b, rfl, q2⟩ := asI_run q2
    cases d2
    refine ⟨a, b, rfl, rfl, q2.1, fun p hp => ?_⟩
    obtain ⟨f3, e3, g3⟩ := f2.alloc (o := .tup (rgV a b)) hp
    exact q2.2 (.ref p) _ _ ((e1.trans e2).trans e3) f3 (.tup (Or.inl (Or.inl upd_same)) (dpa_rg (K := K) a b))) q)
end
@[simp] theorem asI_i (i : Int) : asI (.int i) = pure i := rfl
@[simp] theorem r_mLstRg1 {m : Env → W PyData} {e : Env} {Q : List PyData → Prop} : (mLstRg1 m e).run Q = (m e).run fun d => (asI d).run fun n => RgOk 0 n ∧ Q (rgD 0 n.toNat) := rfl
@[simp] theorem r_mLstRg2 {m m' : Env → W PyData} {e : Env} {Q : List PyData → Prop} : (mLstRg2 m m' e).run Q = (m e).run fun d => (asI d).run fun a => (m' e).run fun d => (asI d).run fun b => RgOk a b ∧ Q (rgD a (b - a).toNat) := rfl
@[simp] theorem r_mTupRg1 {m : Env → W PyData} {e : Env} {Q : PyData → Prop} : (mTupRg1 m e).run Q = (m e).run fun d => (asI d).run fun n => RgOk 0 n ∧ Q (.tuple (rgD 0 n.toNat)) := rfl
@[simp] theorem r_mTupRg2 {m m' : Env → W PyData} {e : Env} {Q : PyData → Prop} : (mTupRg2 m m' e).run Q = (m e).run fun d => (asI d).run fun a => (m' e).run fun d => (asI d).run fun b => RgOk a b ∧ Q (.tuple (rgD a (b - a).toNat)) := rfl
/-! ### min of three numbers -/
def rMin3 : List V → Hp → VK → Prop := fun xs H Q => ∃ a b c, xs = [.int a, .int b, .int c] ∧ Q (.int (if b < a then (if c < b then c else b) else (if c < a then c else a))) H
theorem cr_min3 {X : Cx} (hc : X.calm = true) : CallR X (.builtin "min") rMin3 := by
  intro pins s σ H xs us Q I r h
  obtain ⟨a, b, c, rfl, q⟩ := h
  cases r with
  | cons r1 r => cases r with
    | cons r2 r => cases r with
      | cons r3 r =>
        cases r
        obtain ⟨t, rfl⟩ := r1
        obtain ⟨t', rfl⟩ := r2
        obtain ⟨t'', rfl⟩ := r3
        refine min_three_ints (I.ok.hd hc) fun h' tk k => ⟨_, H, I.kept k, ?_, q⟩
        split <;> split <;> exact ⟨_, rfl⟩
def fMin3 : List PyData → W PyData
  | [.int a, .int b, .int c] => pure (.int (if b < a then (if c < b then c else b) else (if c < a then c else a)))
  | _ => W.fail
theorem cj_min3 [PoC] {K : PySem.W.Frag} : CJ K rMin3 fMin3 := by
  intro G H vs ds ex h Q q
  match ds, h, q with
  | [.int a, .int b, .int c], h, q =>
    cases h with
    | cons r1 r => cases r with
      | cons r2 r => cases r with
        | cons r3 r =>
          cases r; cases r1; cases r2; cases r3
          exact ⟨a, b, c, rfl, q _ G H .same (.int _)⟩
@[simp] theorem fMin3_i (a b c : Int) : fMin3 [.int a, .int b, .int c] = pure (.int (if b < a then (if c < b then c else b) else (if c < a then c else a))) := rfl
theorem rgOk_nat {a b : Nat} (ha : a ≤ 1000000) (hb : b ≤ 1000000) : RgOk a b := by unfold RgOk; omega
end Z
namespace Z
open PySem PySem.W PySem.Spec PyProof.Rows L2
open Evl (Ex fresh_back)
/-! ### [x] * n: a new list -/
def mRepL (md : Env → W (List PyData)) (mb : Env → W PyData) : Env → W (List PyData) := fun env => do
  let r ← md env
  W.need (r.length ≤ sizeLine)
  let k ← asI (← mb env)
  W.need (-(2 ^ 63) ≤ k ∧ k < 2 ^ 63 ∧ r.length * k.toNat ≤ sizeLine)
  pure (List.replicate k.toNat r).flatten
section
variable [PoC] {K : PySem.W.Frag}
theorem dpa_rep {G : Hp} {vs : List V} {ds : List PyData} (h : DpAll K G vs ds) : ∀ n : Nat, DpAll K G (List.replicate n vs).flatten (List.replicate n ds).flatten
  | 0 => .nil
  | n + 1 => by
    rw [List.replicate_succ, List.replicate_succ, List.flatten_cons, List.flatten_cons]
    exact dpa_app h (dpa_rep h n)
theorem tjl_rep {ta : TA} {md : Env → W (List PyData)} {tb : TE} {mb : Env → W PyData} (hd : TJD K ta md) (hb : TJ K tb mb) : TJL K (tOp rRep (tLst ta) tb) (mRepL md mb) := fun B G env σ H ok Q q =>
  hd B G env σ H ok _ ((md env).mono (fun r q1 vs G1 H1 e1 f1 d1 => ⟨by rw [dpa_len d1]; exact q1.1, fun p hp => by
    have hpB : B.H p = none := f1.free hp
    have f2 := f1.lay (o := .lst vs) hp
    have ok2 : ROk K B G1 env σ (upd H1 p (.lst vs)) := ok.go e1 f2
    have hDm : p ∉ fpsOf B.ops := fun z => (mem_fpsOf.mp z).elim fun q w => f1.opH q w.1 p w.2 hpB
    refine hb _ G1 env σ _ ok2.reb _ ((mb env).mono (fun k q2 u G2 H2 e2 f3 d2 => ?_) q1.2)
    obtain ⟨k, rfl, q2⟩ := asI_run q2
    cases d2
    have hp2 : H2 p = some (.lst vs) := f3.keep p _ upd_same hDm
    have f4 : Fra B G2 H2 := f2.backF f3
    refine ⟨p, k, vs, rfl, rfl, hp2, q2.1.1, q2.1.2.1, by rw [dpa_len d1]; exact q2.1.2.2, fun q' hq' => ?_⟩
    exact q2.2 q' _ G2 _ (e1.trans e2) (f4.lay hq') (f4.free hq') (fresh_back f4.ex hq') upd_same (dpa_rep (dpa_ex e2 d1) k.toNat)⟩) q)
end
@[simp] theorem r_mRepL {md : Env → W (List PyData)} {mb : Env → W PyData} {e : Env} {Q : List PyData → Prop} : (mRepL md mb e).run Q = (md e).run fun r => r.length ≤ sizeLine ∧ (mb e).run fun d => (asI d).run fun k => (-(2 ^ 63) ≤ k ∧ k < 2 ^ 63 ∧ r.length * k.toNat ≤ sizeLine) ∧ Q (List.replicate k.toNat r).flatten := rfl
/-! ### xs[i] += e -/
def rGetB : V → V → Hp → VK → Prop := fun x y H Q => ∃ l i xs v, x = .ref l ∧ y = .int i ∧ 0 ≤ i ∧ H l = some (.lst xs) ∧ xs[i.toNat]? = some v ∧ Q v H
theorem get_box {X : Cx} : PGet X rGetB := by
  intro pins s σ H o i ov iv Q I ro ri h
  obtain ⟨l, k, xs, v, rfl, rfl, h0, hH, hx, q⟩ := h
  cases ro
  obtain ⟨t, rfl⟩ := ri
  obtain ⟨z, its, n, r, hl, e⟩ := I.lstM hH
  obtain ⟨u, hu, ru⟩ := r.get hx
  have hk : k.toNat < xs.length := (List.getElem?_eq_some_iff.mp hx).1
  have hs : xs.length ≤ 16777216 := by rw [← sizeLine_eq]; omega
  refine wpAny_getItem_list (l := l) (items := its.toArray) ⟨_, e, rfl, n, rfl⟩ h0 (by omega) (x := u) (by simpa using hu) ?_
  exact ⟨v, H, I, ru, q⟩
def sAugI (i : Nat) (mi m : Env → W PyData) : Ms := fun env => do
  let ds ← asL (gt env i)
  let x ← asI (← mi env)
  W.need (0 ≤ x)
  match ds[x.toNat]? with
  | some (.int a) => do
    let b ← asI (← m env)
    pure (.nx, env.set i (.lst (ds.set x.toNat (.int (a + b)))))
  | _ => W.fail
section
variable [PoC] {K : PySem.W.Frag} {M : Ba → Prop}
theorem tjs_augI {i : Nat} {ti te : TE} {mi m : Env → W PyData} (hi : TJ K ti mi) (h : TJ K te m) : TJS M K (tAugS (tVar i) ti te rGetB (ipI fun i j => i + j) rSetL) (sAugI i mi m) := fun B G fps env σ H ok hm D q => by
  obtain ⟨ds, hg, q⟩ := asL_run q
  obtain ⟨p, vs, h1, h2, h3, h4, h5⟩ := ok.lstAt hg
  refine ⟨_, sg_some h2, ok.ev hi ((mi env).mono (fun d k v G1 H1 e1 ok1 dv => ?_) q)⟩
  obtain ⟨x, rfl, k⟩ := asI_run k
  cases dv
  obtain ⟨h0, k⟩ := k
  obtain ⟨p', vs', h1', h2', h3', h4', h5'⟩ := ok1.lstAt hg
  rw [h1] at h1'
  cases h1'
  cases c : ds[x.toNat]? with
  | none => simp only [c] at k; exact k.elim
  | some a =>
    cases a with
    | int a =>
      simp only [c] at k
      obtain ⟨va, hva, dva⟩ := dpa_get h5' c
      cases dva
      refine ⟨p, x, vs', _, rfl, rfl, h0, h4', hva, ok1.ev h ((m env).mono (fun d2 k2 v2 G2 H2 e2 ok2 dv2 => ?_) k)⟩
      obtain ⟨b, rfl, k2⟩ := asI_run k2
      cases dv2
      obtain ⟨p'', vs'', h1'', h2'', h3'', h4'', h5''⟩ := ok2.lstAt hg
      rw [h1] at h1''
      cases h1''
      have hlt : x.toNat < ds.length := (List.getElem?_eq_some_iff.mp c).1
      have hix : ixN vs''.length x = some x.toNat := by
        unfold ixN
        rw [if_pos h0, if_pos (by rw [dpa_len h5'']; omega)]
      exact ⟨a, b, rfl, rfl, p, vs'', x, x.toNat, rfl, rfl, h4'', hix, k2 G2 _ _ _ (e1.trans e2) (ok2.wrB h1 (s := .lst (ds.set x.toNat (.int (a + b)))) ⟨p, _, rfl, rfl, h3'', upd_same, dpa_set (.int _) _ h5''⟩)⟩
    | _ => simp only [c] at k; exact k.elim
end
theorem r_sAugI {i : Nat} {mi m : Env → W PyData} {e : Env} {Q : Fl × Env → Prop} : (sAugI i mi m e).run Q = (asL (gt e i)).run fun ds => (mi e).run fun d => (asI d).run fun x => 0 ≤ x ∧ (match ds[x.toNat]? with
  | some (.int a) => (do let b ← asI (← m e); pure (Fl.nx, e.set i (.lst (ds.set x.toNat (.int (a + b))))) : W (Fl × Env))
  | _ => W.fail).run Q := rfl
end Z
namespace Z
variable [PoC]
open PySem PySem.Spec PyProof.Rows L2
/-! ### data compared by >= -/
def fGeA (a b : PyData) : W PyData := do W.need (PySem.W.alike a b = true ∧ a ≠ .none ∧ a.depth ≤ 60); pure (.bool (!PySem.W.dataLt a b))
def rGeA (K : PySem.W.Frag) : R2 := fun x y H Q => ∃ d e, Dp K H x d ∧ Dp K H y e ∧ PySem.W.alike d e = true ∧ d ≠ .none ∧ d.depth ≤ 60 ∧ Q (.bl (!PySem.W.dataLt d e)) H
theorem op_geA {X : Cx} (hu : X.A.units + 64 < cLine) : OpR X (compareOp .GtE) (rGeA X.K) := by
  intro pins s σ H x y v u Q I rx ry h
  obtain ⟨d, e, hd, he, ha, hn, hz, q⟩ := h
  obtain ⟨as, r1⟩ := Dp.reads I d x v (dp0 hd) rx
  obtain ⟨bs, r2⟩ := Dp.reads I e y u (dp0 he) ry
  exact PySem.W.rcGe_alike d e X.A s v u as bs r1 r2 ha hn (by have := Nat.min_le_left d.depth e.depth; omega) X.prog X.w X.xe _ ⟨.bl _, H, I, rfl, q⟩
theorem oj_geA {K : PySem.W.Frag} : OJ K (rGeA K) fGeA := fun G H x y dx dy ex hx hy Q q => ⟨dx, dy, dp_ex ex hx, dp_ex ex hy, q.1.1, q.1.2.1, q.1.2.2, q.2 _ G H .same (.bl _)⟩
omit [PoC] in
theorem r_fGeA (a b : PyData) (Q : PyData → Prop) : (fGeA a b).run Q = ((PySem.W.alike a b = true ∧ a ≠ .none ∧ a.depth ≤ 60) ∧ Q (.bool (!PySem.W.dataLt a b))) := rfl
section
variable {α : Type} [DecidableEq α] [PySem.W.DatumOrd α]
omit [PoC] in
theorem fGeA_D (h : PySem.W.Datum.depth α ≤ 60) (a b : α) {Q : PyData → Prop} (q : Q (.bool (!PySem.W.DatumOrd.lt a b))) : (fGeA (tD a) (tD b)).run Q :=
  ⟨⟨PySem.W.DatumOrd.alike a b, PySem.W.DatumOrd.notNone a, Nat.le_trans (PySem.W.Datum.depth_le a) h⟩, by rw [PySem.W.DatumOrd.lt_eq]; exact q⟩
end
end Z
namespace Z
variable [PoC]
open PySem PySem.Spec PyProof.Rows L2
open Evl (Ex fresh_back)
/-! ### a thing whose inside is counted: at most n so far -/
structure Fam where
  p : Addr
  fp : List Addr
  C : Nat → Hp → Prop
  loc : ∀ (n : Nat) (H H' : Hp), (∀ a ∈ fp, H' a = H a) → C n H → C n H'
  mem : ∀ (n : Nat) (H : Hp), C n H → ∀ a ∈ fp, H a ≠ none
  up : ∀ (n c : Nat) (H : Hp), C n H → C (n + c) H
def Fam.op (F : Fam) (n : Nat) : Opq := ⟨F.p, F.fp, F.C n, fun H H' h _ => F.loc n H H' h, F.mem n⟩
def Ba.wth (B : Ba) (F : Fam) (n : Nat) : Ba := ⟨B.G, B.H, B.mu, [F.op n]⟩
/-- which families are meant -/
class FaC where
  FO : Fam → Prop
variable [FaC]
def FamP (F : Fam) : Prop := (∀ n, PoC.PO (F.op n)) ∧ FaC.FO F
def nMax : Nat := 2 ^ 4000
section
variable {K : PySem.W.Frag} {B : Ba} {G H G' H' : Hp} {fps : Fps} {env : Env} {σ : L2.St} {F : Fam} {n c : Nat}
theorem Fra.wup (hF : FamP F) (f : Fra (B.wth F n) G H) : Fra (B.wth F (n + c)) G H := by
  have h := f.ops (F.op n) (List.mem_singleton.mpr rfl)
  have h2 := f.opH (F.op n) (List.mem_singleton.mpr rfl)
  refine ⟨f.ex, f.old, f.keep, f.trk, f.new, fun q hq => ?_, fun q hq => ?_, fun q hq => ?_, Nat.le_refl 1, f.st, f.cl, f.tu⟩
  · obtain rfl := List.mem_singleton.mp hq
    exact ⟨F.up n c H h.1, h.2⟩
  · obtain rfl := List.mem_singleton.mp hq
    exact h2
  · obtain rfl := List.mem_singleton.mp hq
    exact hF.1 _
theorem SlV.wth {s : Sl} {o : Option V} (h : SlV K (B.wth F n) G s o) : SlV K (B.wth F (n + c)) G s o := by
  cases s with
  | opq k =>
    obtain ⟨q, h1, h2⟩ := h
    cases k with
    | zero =>
      have : F.op n = q := by simpa [Ba.wth] using h1
      subst this
      exact ⟨F.op (n + c), rfl, h2⟩
    | succ k => simp [Ba.wth] at h1
  | _ => exact h
theorem ROk.wgo (h : ROk K (B.wth F n) G env σ H) (e : Ex G G') (f : Fra (B.wth F (n + c)) G' H') : ROk K (B.wth F (n + c)) G' env σ H' := ⟨f, h.lE, fun i => ((h.sl i).wth).mono e⟩
end
def TJN (c : Nat) (K : PySem.W.Frag) (te : TE) (m : Env → W PyData) : Prop :=
  ∀ (F : Fam), FamP F → ∀ (B : Ba) (G : Hp) (env : Env) (σ : L2.St) (H : Hp) (n : Nat), n + c ≤ nMax → ROk K (B.wth F n) G env σ H → ∀ Q : VK, ((m env).run fun d => ∀ v G' H', Ex G G' → Fra (B.wth F (n + c)) G' H' → Dp K G' v d → Q v H') → te σ H Q
def TJTN (c : Nat) (K : PySem.W.Frag) (tt : TT) (m : Env → W Bool) : Prop :=
  ∀ (F : Fam), FamP F → ∀ (B : Ba) (G : Hp) (env : Env) (σ : L2.St) (H : Hp) (n : Nat), n + c ≤ nMax → ROk K (B.wth F n) G env σ H → ∀ Q : Bool → Hp → Prop, ((m env).run fun b => ∀ G' H', Ex G G' → Fra (B.wth F (n + c)) G' H' → Q b H') → tt σ H Q
def TJDN (c : Nat) (K : PySem.W.Frag) (ta : TA) (m : Env → W (List PyData)) : Prop :=
  ∀ (F : Fam), FamP F → ∀ (B : Ba) (G : Hp) (env : Env) (σ : L2.St) (H : Hp) (n : Nat), n + c ≤ nMax → ROk K (B.wth F n) G env σ H → ∀ Q : List V → Hp → Prop, ((m env).run fun ds => ∀ vs G' H', Ex G G' → Fra (B.wth F (n + c)) G' H' → DpAll K G' vs ds → Q vs H') → ta σ H Q
def TJLN (c : Nat) (K : PySem.W.Frag) (te : TE) (m : Env → W (List PyData)) : Prop :=
  ∀ (F : Fam), FamP F → ∀ (B : Ba) (G : Hp) (env : Env) (σ : L2.St) (H : Hp) (n : Nat), n + c ≤ nMax → ROk K (B.wth F n) G env σ H → ∀ Q : VK,
    ((m env).run fun ds => ∀ p vs G' H', Ex G G' → Fra (B.wth F (n + c)) G' H' → B.H p = none → G' p = none → H' p = some (.lst vs) → DpAll K G' vs ds → Q (.ref p) H') → te σ H Q
def TJAN (c : Nat) (K : PySem.W.Frag) (ta : TA) (m : Env → W (List Sl)) : Prop :=
  ∀ (F : Fam), FamP F → ∀ (B : Ba) (G : Hp) (env : Env) (σ : L2.St) (H : Hp) (n : Nat), n + c ≤ nMax → ROk K (B.wth F n) G env σ H → ∀ Q : List V → Hp → Prop, ((m env).run fun ss => ∀ vs G' H', Ex G G' → Fra (B.wth F (n + c)) G' H' → Paired (ArgOk K [F.op (n + c)] G') vs ss → Q vs H') → ta σ H Q
section
variable {K : PySem.W.Frag} {te ta tb : TE} {m ma mb : Env → W PyData} {c d c1 c2 : Nat}
theorem Fra.asc {B : Ba} {F : Fam} {G H : Hp} {n : Nat} (f : Fra (B.wth F (n + c1 + c2)) G H) : Fra (B.wth F (n + (c1 + c2))) G H := by rwa [Nat.add_assoc] at f
theorem tjn_of (h : TJ K te m) : TJN 0 K te m := fun F hF B G env σ H n hn ok Q q => h (B.wth F n) G env σ H ok Q q
theorem tjtn_of {tt : TT} {mt : Env → W Bool} (h : TJT K tt mt) : TJTN 0 K tt mt := fun F hF B G env σ H n hn ok Q q => h (B.wth F n) G env σ H ok Q q
theorem tjdn_of {t : TA} {mr : Env → W (List PyData)} (h : TJD K t mr) : TJDN 0 K t mr := fun F hF B G env σ H n hn ok Q q => h (B.wth F n) G env σ H ok Q q
theorem tjln_of {ml : Env → W (List PyData)} (h : TJL K te ml) : TJLN 0 K te ml := fun F hF B G env σ H n hn ok Q q => h (B.wth F n) G env σ H ok Q q
theorem tjan_of {t : TA} {mr : Env → W (List Sl)} (h : TJA K t mr) : TJAN 0 K t mr := fun F hF B G env σ H n hn ok Q q => h (B.wth F n) G env σ H ok Q q
theorem tjn_up (d : Nat) (h : TJN c K te m) : TJN (c + d) K te m := fun F hF B G env σ H n hn ok Q q =>
  h F hF B G env σ H n (by omega) ok Q ((m env).mono (fun x k v G' H' e f dv => k v G' H' e (Fra.asc (f.wup hF)) dv) q)
theorem tjn_op {r : R2} {f : PyData → PyData → W PyData} (hr : OJ K r f) (ha : TJN c1 K ta ma) (hb : TJN c2 K tb mb) : TJN (c1 + c2) K (tOp r ta tb) (m2 f ma mb) := fun F hF B G env σ H n hn ok Q q =>
  ha F hF B G env σ H n (by omega) ok _ ((ma env).mono (fun a q1 v G1 H1 e1 f1 d1 => hb F hF B G1 env σ H1 (n + c1) (by omega) (ok.wgo e1 f1) _ ((mb env).mono (fun b q2 u G2 H2 e2 f2 d2 =>
    hr G2 H2 v u a b f2.ex (dp_ex e2 d1) d2 Q ((f a b).mono (fun d q3 w G3 H3 st d3 => q3 w G3 H3 ((e1.trans e2).trans (st.fra f2).2) (st.fra f2.asc).1 d3) q2)) q1)) q)
theorem tjn_un {r : V → Hp → VK → Prop} {f : PyData → W PyData} (hr : UJ K r f) (ha : TJN c K ta ma) : TJN c K (tUn r ta) (m1 f ma) := fun F hF B G env σ H n hn ok Q q =>
  ha F hF B G env σ H n hn ok _ ((ma env).mono (fun a q1 v G1 H1 e1 f1 d1 => hr G1 H1 v a f1.ex d1 Q ((f a).mono (fun d q3 w G3 H3 st d3 => q3 w G3 H3 (e1.trans (st.fra f1).2) (st.fra f1).1 d3) q1)) q)
theorem tjdn_cons {t : TA} {mr : Env → W (List PyData)} (ha : TJN c1 K ta ma) (hr : TJDN c2 K t mr) : TJDN (c1 + c2) K (tCons ta t) (mCons ma mr) := fun F hF B G env σ H n hn ok Q q =>
  ha F hF B G env σ H n (by omega) ok _ ((ma env).mono (fun a q1 v G1 H1 e1 f1 d1 => hr F hF B G1 env σ H1 (n + c1) (by omega) (ok.wgo e1 f1) _ ((mr env).mono (fun r q2 vs G2 H2 e2 f2 d2 => q2 (v :: vs) G2 H2 (e1.trans e2) f2.asc (.cons (dp_ex e2 d1) d2)) q1)) q)
theorem tjn_tup {t : TA} {mr : Env → W (List PyData)} (hr : TJDN c K t mr) : TJN c K (tTup t) (mTup mr) := fun F hF B G env σ H n hn ok Q q =>
  hr F hF B G env σ H n hn ok _ ((mr env).mono (fun r q1 vs G1 H1 e1 f1 d1 => ⟨by rw [dpa_len d1]; exact q1.1, fun p hp => by
    obtain ⟨f2, e2, g2⟩ := f1.alloc (o := .tup vs) hp
    exact q1.2 (.ref p) _ _ (e1.trans e2) f2 (.tup (Or.inl (Or.inl upd_same)) (dpa_ex e2 d1))⟩) q)
theorem tjln_lst {t : TA} {mr : Env → W (List PyData)} (hr : TJDN c K t mr) : TJLN c K (tLst t) (mLst mr) := fun F hF B G env σ H n hn ok Q q =>
  hr F hF B G env σ H n hn ok _ ((mr env).mono (fun r q1 vs G1 H1 e1 f1 d1 => ⟨by rw [dpa_len d1]; exact q1.1, fun p hp => by
    exact q1.2 p vs G1 _ e1 (f1.lay hp) (f1.free hp) (fresh_back f1.ex hp) upd_same d1⟩) q)
theorem tjn_frz {ml : Env → W (List PyData)} (h : TJLN c K te ml) : TJN c K te (mFrz ml) := fun F hF B G env σ H n hn ok Q q =>
  h F hF B G env σ H n hn ok Q ((ml env).mono (fun ds k p vs G' H' e f h0 hg hp hd => by
    have e1 : Ex G' (upd G' p (.lst vs)) := Ex.new hg
    refine k (.ref p) (upd G' p (.lst vs)) H' (e.trans e1) ?_ (.lst (Or.inl (Or.inl upd_same)) (dpa_ex e1 hd))
    refine ⟨fun a o ha => ?_, f.old.trans e1, f.keep, f.trk, fun a ha hb => ?_, fun q hq => ⟨(f.ops q hq).1, fun a ha => ⟨?_, ((f.ops q hq).2 a ha).2⟩⟩, f.opH, f.po, f.one, f.st, f.cl.upd trivial, fun a xs e => ?_⟩
    rotate_left 3
    · have := f.tu a xs e
      rw [upd_ne (fun c => by subst c; rw [hp] at e; cases e)]; exact this
    · by_cases c : a = p
      · subst c; rw [upd_same] at ha; rw [hp]; exact ha
      · rw [upd_ne c] at ha; exact f.ex a o ha
    · rw [upd_ne (ne_fr ha h0)]; exact f.new a ha hb
    · rw [upd_ne (ne_fr (f.opH q hq a ha) h0)]; exact ((f.ops q hq).2 a ha).1) q)
end
end Z
namespace Z
variable [PoC] [FaC]
open PySem PySem.Spec PyProof.Rows L2
open Evl (Ex fresh_back)
/-! ### calls that draw -/
def spFN (c : Nat) (K : PySem.W.Frag) (n : Nat) (M : List Sl → W Rv) : Sp := fun vs H Q _ => ∃ (F : Fam) (k : Nat) (G : Hp) (args : List Sl), FamP F ∧ k + c ≤ nMax ∧ Fra (bas G H F.fp [F.op k]) G H ∧ args.length = n ∧ Paired (ArgOk K [F.op k] G) vs args ∧
  (M args).run fun r => ∀ v G' H', Ex G G' → Fra (bas G H F.fp [F.op (k + c)]) G' H' → RvOk K H G' H' v r → Q v H'
section
variable {K : PySem.W.Frag} {te ta tb : TE} {m ma mb : Env → W PyData} {c d c1 c2 : Nat}
theorem tjan_cons {tr : TA} {mr : Env → W (List Sl)} (ha : TJN c1 K ta ma) (hr : TJAN c2 K tr mr) : TJAN (c1 + c2) K (tCons ta tr) (aCons ma mr) := fun F hF B G env σ H n hn ok Q q =>
  ha F hF B G env σ H n (by omega) ok _ ((ma env).mono (fun a q1 v G1 H1 e1 f1 d1 => hr F hF B G1 env σ H1 (n + c1) (by omega) (ok.wgo e1 f1) _ ((mr env).mono (fun r q2 vs G2 H2 e2 f2 d2 => q2 (v :: vs) G2 H2 (e1.trans e2) f2.asc (.cons (dp_ex e2 d1) (by rw [← Nat.add_assoc]; exact d2))) q1)) q)
theorem tjan_opq {i : Nat} {tr : TA} {mr : Env → W (List Sl)} (hr : TJAN c K tr mr) : TJAN c K (tCons (tVar i) tr) (aOpq i mr) := fun F hF B G env σ H n hn ok Q q => by
  have s := ok.sl i
  unfold aOpq at q
  cases e : gt env i with
  | opq k =>
    rw [e] at s q
    obtain ⟨p, h1, h2⟩ := s
    refine ⟨_, sg_some h2, ?_⟩
    have hp : [F.op (n + c)][k]? = some (F.op (n + c)) ∧ p.p = (F.op (n + c)).p := by
      cases k with
      | zero =>
        have : F.op n = p := by simpa [Ba.wth] using h1
        subst this
        exact ⟨rfl, rfl⟩
      | succ k => simp [Ba.wth] at h1
    exact hr F hF B G env σ H n hn ok _ ((mr env).mono (fun r q2 vs G2 H2 e2 f2 d2 => q2 (.ref p.p :: vs) G2 H2 e2 f2 (.cons ⟨_, hp.1, by rw [hp.2]⟩ d2)) q)
  | _ => rw [e] at q; exact q.elim
theorem tjan_dct {i : Nat} {tr : TA} {mr : Env → W (List Sl)} (hr : TJAN c K tr mr) : TJAN c K (tCons (tVar i) tr) (aDct i mr) := fun F hF B G env σ H n hn ok Q q => by
  have s := ok.sl i
  unfold aDct at q
  cases e : gt env i with
  | rK kvs =>
    rw [e] at s q
    obtain ⟨p, es, h1, h2, h3⟩ := s
    refine ⟨_, sg_some h1, ?_⟩
    exact hr F hF B G env σ H n hn ok _ ((mr env).mono (fun r q2 vs G2 H2 e2 f2 d2 => q2 (.ref p :: vs) G2 H2 e2 f2 (.cons ⟨p, es, rfl, e2 _ _ h2, kvd_ex e2 h3⟩ d2)) q)
  | rT kvs =>
    rw [e] at s q
    obtain ⟨p, es, h1, h2, h3⟩ := s
    refine ⟨_, sg_some h1, ?_⟩
    exact hr F hF B G env σ H n hn ok _ ((mr env).mono (fun r q2 vs G2 H2 e2 f2 d2 => q2 (.ref p :: vs) G2 H2 e2 f2 (.cons ⟨p, es, rfl, rd_ex e2 h2, kvd_ex e2 h3⟩ d2)) q)
  | _ => rw [e] at q; exact q.elim
theorem Fra.call {B : Ba} {F : Fam} {n : Nat} {G H : Hp} (f1 : Fra (B.wth F n) G H) : Fra (bas G H F.fp [F.op n]) G H := by
  refine f1.at _ fun p hp a h => ?_
  obtain rfl := List.mem_singleton.mp hp
  exact h
theorem Fra.ret {B : Ba} {F : Fam} (hF : FamP F) {n : Nat} {G H G' H' : Hp} (f1 : Fra (B.wth F n) G H) (f2 : Fra (bas G H F.fp [F.op (n + c)]) G' H') : Fra (B.wth F (n + c)) G' H' := by
  refine (f1.wup hF (c := c)).back (fun a ha => ?_) f2
  exact .inl ((f1.ops (F.op n) (List.mem_singleton.mpr rfl)).2 a ha).2
theorem tjn_call {n : Nat} {M : List Sl → W Rv} {E : XK} {tl : TA} {mr : Env → W (List Sl)} (ha : TJAN c1 K tl mr) : TJN (c1 + c2) K (tCall (spFN c2 K n M) [] E tl) (mCall n M mr) := fun F hF B G env σ H k hn ok Q q =>
  ha F hF B G env σ H k (by omega) ok _ ((mr env).mono (fun args q1 vs G1 H1 e1 f1 d1 => by
    refine ⟨F, k + c1, G1, args, hF, by omega, f1.call, q1.1, by simpa using d1, (M args).mono (fun r q2 v G2 H2 e2 f2 rv => ?_) q1.2⟩
    have f3 := Fra.asc (f1.ret hF f2)
    cases r with
    | im d => exact q2 v G2 H2 (e1.trans e2) f3 rv
    | fr ds =>
      obtain ⟨p, ws, rfl, h0, hg, hp, hd⟩ := rv
      obtain ⟨f4, e4⟩ := frz_fra f3 (f1.free h0) hp hg
      exact q2 _ _ H2 ((e1.trans e2).trans e4) f4 (.lst (Or.inl (Or.inl upd_same)) (dpa_ex e4 hd))
    | rk kvs => exact q2.elim
    | rt kvs => exact q2.elim
    | ad a =>
      cases a with
      | exc n => exact q2.elim
      | tz ds =>
        obtain ⟨p, us, rfl, h3, h4, _⟩ := rv
        exact q2 _ G2 H2 (e1.trans e2) f3 (.tup h3 h4)) q)
theorem tjln_call {n : Nat} {M : List Sl → W Rv} {E : XK} {tl : TA} {mr : Env → W (List Sl)} (ha : TJAN c1 K tl mr) : TJLN (c1 + c2) K (tCall (spFN c2 K n M) [] E tl) (mCallL n M mr) := fun F hF B G env σ H k hn ok Q q =>
  ha F hF B G env σ H k (by omega) ok _ ((mr env).mono (fun args q1 vs G1 H1 e1 f1 d1 => by
    refine ⟨F, k + c1, G1, args, hF, by omega, f1.call, q1.1, by simpa using d1, (M args).mono (fun r q2 v G2 H2 e2 f2 rv => ?_) q1.2⟩
    have f3 := Fra.asc (f1.ret hF f2)
    cases r with
    | im d => exact q2.elim
    | fr ds =>
      obtain ⟨p, ws, rfl, h0, hg, hp, hd⟩ := rv
      exact q2 p ws G2 H2 (e1.trans e2) f3 (f1.free h0) hg hp hd
    | rk kvs => exact q2.elim
    | rt kvs => exact q2.elim
    | ad a => exact q2.elim) q)
/-! ### statements that draw -/
def TJSN (c : Nat) (K : PySem.W.Frag) (tu : TS) (ms : Ms) : Prop :=
  ∀ (F : Fam), FamP F → ∀ (B : Ba) (G : Hp) (fps : Fps) (env : Env) (σ : L2.St) (H : Hp) (n : Nat), n + c ≤ nMax → Ok K (B.wth F n) G fps env σ H → Tight (B.wth F n) → ∀ D : Ends,
    ((ms env).run fun r => ∀ G' fps' σ' H', Ex G G' → Ok K (B.wth F (n + c)) G' fps' r.2 σ' H' → FlOk K B D r.1 G' σ' H') → tu D σ H
section
variable {B : Ba} {F : Fam} {n : Nat} {G H : Hp} {fps : Fps} {env : Env} {σ : L2.St}
theorem Ok.wup (hF : FamP F) (ok : Ok K (B.wth F n) G fps env σ H) : Ok K (B.wth F (n + c)) G fps env σ H := by
  refine ⟨ok.fra.wup hF, ok.lE, ok.lF, fun i => ?_, ok.dis⟩
  have s := ok.sl i
  have bx : ∀ p, BoxP (B.wth F n) G p → BoxP (B.wth F (n + c)) G p := fun p h => ⟨h.1, h.2.1, fun q hq => by
    obtain rfl := List.mem_singleton.mp hq
    exact h.2.2 (F.op n) (List.mem_singleton.mpr rfl)⟩
  cases e : gt env i with
  | any => rw [e] at s; exact s
  | imm d => rw [e] at s; exact s
  | lst ds =>
    rw [e] at s
    obtain ⟨p, vs, h1, h2, h3, h4⟩ := s
    exact ⟨p, vs, h1, h2, bx p h3, h4⟩
  | dK ds =>
    rw [e] at s
    obtain ⟨p, vs, h1, h2, h3, h4⟩ := s
    exact ⟨p, vs, h1, h2, bx p h3, h4⟩
  | dT ds =>
    rw [e] at s
    obtain ⟨p, vs, h1, h2, h3, h4⟩ := s
    exact ⟨p, vs, h1, h2, bx p h3, h4⟩
  | rK d => rw [e] at s; exact s
  | rT d => rw [e] at s; exact s
  | adr d => rw [e] at s; exact s
  | opq k =>
    rw [e] at s
    obtain ⟨h0, q, h1, h2⟩ := s
    refine ⟨h0, F.op (n + c), ?_⟩
    cases k with
    | zero =>
      have : F.op n = q := by simpa [Ba.wth] using h1
      subst this
      exact ⟨rfl, h2⟩
    | succ k => simp [Ba.wth] at h1
end
theorem tjsn_of {tu : TS} {ms : Ms} (h : TJS Tight K tu ms) : TJSN 0 K tu ms := fun F hF B G fps env σ H n hn ok hm D q => h (B.wth F n) G fps env σ H ok hm D q
end
end Z
namespace Z
variable [PoC] [FaC]
open PySem PySem.Spec PyProof.Rows L2
open Evl (Ex fresh_back)
/-! ### statements with draws in them -/
section
variable {K : PySem.W.Frag} {te ta tb : TE} {m ma mb : Env → W PyData} {ml : Env → W (List PyData)} {tu tv : TS} {mu mv : Ms} {c d c1 c2 c3 : Nat}
theorem Ok.asc {B : Ba} {F : Fam} {n : Nat} {G H : Hp} {fps : Fps} {env : Env} {σ : L2.St} (ok : Ok K (B.wth F (n + c1 + c2)) G fps env σ H) : Ok K (B.wth F (n + (c1 + c2))) G fps env σ H := by rwa [Nat.add_assoc] at ok
theorem Ok.to {B : Ba} {F : Fam} (hF : FamP F) {n n' : Nat} (h : n ≤ n') {G H : Hp} {fps : Fps} {env : Env} {σ : L2.St} (ok : Ok K (B.wth F n) G fps env σ H) : Ok K (B.wth F n') G fps env σ H := by
  obtain ⟨k, rfl⟩ := Nat.exists_eq_add_of_le h
  exact ok.wup hF
theorem Fra.to {B : Ba} {F : Fam} (hF : FamP F) {n n' : Nat} (h : n ≤ n') {G H : Hp} (f : Fra (B.wth F n) G H) : Fra (B.wth F n') G H := by
  obtain ⟨k, rfl⟩ := Nat.exists_eq_add_of_le h
  exact f.wup hF
section
variable {B : Ba} {F : Fam} {n : Nat} {G H : Hp} {fps : Fps} {env : Env} {σ : L2.St}
theorem Ok.backN {G' H' : Hp} (hF : FamP F) (ok : Ok K (B.wth F n) G fps env σ H) (f : Fra ((bas G H (fpsOf [F.op n]) []).wth F (n + c)) G' H') : Ok K (B.wth F (n + c)) G' fps env σ H' := (ok.wup hF).back f
theorem Ok.evN (hF : FamP F) (hn : n + c ≤ nMax) (ok : Ok K (B.wth F n) G fps env σ H) (h : TJN c K te m) {Q : VK} (q : (m env).run fun d => ∀ v G' H', Ex G G' → Ok K (B.wth F (n + c)) G' fps env σ H' → Dp K G' v d → Q v H') : te σ H Q :=
  h F hF (bas G H (fpsOf [F.op n]) []) G env σ H n hn ok.view Q ((m env).mono (fun d k v G' H' e f dv => k v G' H' e (ok.backN hF f) dv) q)
theorem Ok.evLN (hF : FamP F) (hn : n + c ≤ nMax) (ok : Ok K (B.wth F n) G fps env σ H) (h : TJLN c K te ml) {Q : VK}
    (q : (ml env).run fun ds => ∀ p vs G' H', Ex G G' → Ok K (B.wth F (n + c)) G' fps env σ H' → H p = none → G' p = none → H' p = some (.lst vs) → DpAll K G' vs ds → Q (.ref p) H') : te σ H Q :=
  h F hF (bas G H (fpsOf [F.op n]) []) G env σ H n hn ok.view Q ((ml env).mono (fun ds k p vs G' H' e f h0 hg hp dv => k p vs G' H' e (ok.backN hF f) h0 hg hp dv) q)
theorem Ok.evTN (hF : FamP F) (hn : n + c ≤ nMax) (ok : Ok K (B.wth F n) G fps env σ H) {tt : TT} {mt : Env → W Bool} (h : TJTN c K tt mt) {Q : Bool → Hp → Prop} (q : (mt env).run fun b => ∀ G' H', Ex G G' → Ok K (B.wth F (n + c)) G' fps env σ H' → Q b H') : tt σ H Q :=
  h F hF (bas G H (fpsOf [F.op n]) []) G env σ H n hn ok.view Q ((mt env).mono (fun b k G' H' e f => k G' H' e (ok.backN hF f)) q)
end
theorem tjsn_asg {i : Nat} (h : TJN c K te m) : TJSN c K (tAsg te (gName i)) (sAsg i m) := fun F hF B G fps env σ H n hn ok hm D q =>
  ok.evN hF hn h ((m env).mono (fun d k v G' H' e ok' dv => k G' _ _ H' e (ok'.put (i := i) (f := none) (s := .imm d) (o := some v) ⟨rfl, v, rfl, dv⟩ (fun p j z => by cases z))) q)
theorem tjsn_asgG {g : TG} {mg : PyData → Env → W Env} (h : TJN c K te m) (hg : TJG K g mg) : TJSN c K (tAsg te g) (sAsgG mg m) := fun F hF B G fps env σ H n hn ok hm D q =>
  ok.evN hF hn h ((m env).mono (fun d k v G' H' e ok' dv => hg _ G' fps env σ H' v d ok' dv _ ((mg d env).mono (fun e2 k2 fps' σ' ok2 => k2 G' fps' σ' H' e ok2) k)) q)
theorem tjsn_asgL {i : Nat} (h : TJLN c K te ml) : TJSN c K (tAsg te (gName i)) (sAsgL i ml) := fun F hF B G fps env σ H n hn ok hm D q =>
  ok.evLN hF hn h ((ml env).mono (fun ds k p vs G' H' e ok' h0 hg hp dv => k G' _ _ H' e (ok'.put (i := i) (f := some p) (s := .lst ds) (o := some (.ref p))
    ⟨p, vs, rfl, rfl, ⟨hg, .inr (ok.fra.free h0), fun q hq ha => (ok.wup hF).fra.opH q hq p ha ((ok.wup hF (c := c)).fra.free h0)⟩, hp, dv⟩ (fun p' j z hj => by cases z; exact absurd hj (ok.fps_ne h0 j)))) q)
theorem tjsn_seq (h1 : TJSN c1 K tu mu) (h2 : TJSN c2 K tv mv) : TJSN (c1 + c2) K (tSeq tu tv) (sSeq mu mv) := fun F hF B G fps env σ H n hn ok hm D q =>
  h1 F hF B G fps env σ H n (by omega) ok hm _ ((mu env).mono (fun r k G' fps' σ' H' e ok' => by
    obtain ⟨fl, e1⟩ := r
    cases fl with
    | nx => exact h2 F hF B G' fps' e1 σ' H' (n + c1) (by omega) ok' hm D ((mv e1).mono (fun r2 k2 G2 fps2 σ2 H2 e2 ok2 => k2 G2 fps2 σ2 H2 (e.trans e2) ok2.asc) k)
    | bk => exact k G' fps' σ' H' e (ok'.wup hF).asc
    | ct => exact k G' fps' σ' H' e (ok'.wup hF).asc
    | rt v => exact k G' fps' σ' H' e (ok'.wup hF).asc) q)
theorem tjsn_if {tt : TT} {mt : Env → W Bool} (ht : TJTN c1 K tt mt) (h1 : TJSN c2 K tu mu) (h2 : TJSN c3 K tv mv) : TJSN (c1 + (c2 + c3)) K (tIfS tt tu tv) (sIf mt mu mv) := fun F hF B G fps env σ H n hn ok hm D q =>
  ok.evTN hF (by omega) ht ((mt env).mono (fun b k G' H' e ok' => by
    cases b with
    | true => exact h1 F hF B G' fps env σ H' (n + c1) (by omega) ok' hm D ((mu env).mono (fun r2 k2 G2 fps2 σ2 H2 e2 ok2 => k2 G2 fps2 σ2 H2 (e.trans e2) (ok2.to hF (by omega))) k)
    | false => exact h2 F hF B G' fps env σ H' (n + c1) (by omega) ok' hm D ((mv env).mono (fun r2 k2 G2 fps2 σ2 H2 e2 ok2 => k2 G2 fps2 σ2 H2 (e.trans e2) (ok2.to hF (by omega))) k)) q)
theorem tjsn_ret (h : TJN c K te m) : TJSN c K (tRet te) (sRet m) := fun F hF B G fps env σ H n hn ok hm D q =>
  ok.evN hF hn h ((m env).mono (fun d k v G' H' e ok' dv => k G' fps σ H' e ok' v dv) q)
theorem tjsn_retL (h : TJLN c K te ml) : TJSN c K (tRet te) (sRetL ml) := fun F hF B G fps env σ H n hn ok hm D q =>
  ok.evLN hF hn h ((ml env).mono (fun d k p vs G' H' e ok' h0 hg hp dv => k G' fps σ H' e ok' _ ⟨p, vs, rfl, ok.fra.free h0, hg, hp, dv⟩) q)
theorem tjsn_drop (h : TJN c K te m) : TJSN c K (tDrop te) (sDrop m) := fun F hF B G fps env σ H n hn ok hm D q =>
  ok.evN hF hn h ((m env).mono (fun d k v G' H' e ok' dv => k G' fps σ H' e ok') q)
theorem tjsn_app {i : Nat} (h : TJN c K te m) : TJSN c K (tDrop (tBM K "list" rAppend (tVar i) (tCons te tNil))) (sApp i m) := fun F hF B G fps env σ H n hn ok hm D q => by
  obtain ⟨ds, hg, q⟩ := asL_run q
  obtain ⟨p, vs, h1, h2, h3, h4, h5⟩ := ok.lstAt hg
  refine ⟨_, sg_some h2, tyV_lst h4, ok.evN hF hn h ((m env).mono (fun d k v G' H' e ok' dv => ?_) q)⟩
  obtain ⟨p', vs', h1', h2', h3', h4', h5'⟩ := ok'.lstAt hg
  rw [h1] at h1'
  cases h1'
  exact ⟨p, vs', v, rfl, rfl, h4', by rw [dpa_len h5']; exact k.1, k.2 G' fps σ _ e (ok'.wrB h1 ⟨p, _, rfl, rfl, h3', upd_same, dpa_app h5' (.cons dv .nil)⟩)⟩
/-! loops: at most 2 ^ 64 turns -/
abbrev TJIN (c : Nat) (K : PySem.W.Frag) (wi : TI) (mi : Env → W (List PyData)) : Prop :=
  ∀ (F : Fam), FamP F → ∀ (B : Ba) (G : Hp) (env : Env) (σ : L2.St) (H : Hp) (n : Nat), n + c ≤ nMax → ROk K (B.wth F n) G env σ H → ∀ R : It → Hp → Prop, ((mi env).run fun ds => ∀ J G' H', Ex G G' → Fra (B.wth F (n + c)) G' H' → WalkD K J ds G' → R J H') → wi σ H R
theorem tjin_of {wi : TI} {mi : Env → W (List PyData)} (h : TJI K wi mi) : TJIN 0 K wi mi := fun F hF B G env σ H n hn ok R q => h (B.wth F n) G env σ H ok R q
def turns : Nat := 2 ^ 64
def sForN (kl : List Nat) (mi : Env → W (List PyData)) (mg : PyData → Env → W Env) (mb : Ms) : Ms := fun env => do
  let ds ← mi env
  W.need (ds.length ≤ turns)
  loopM kl mg mb ds (killE kl env)
theorem tjsn_for {wi : TI} {g : TG} {mi : Env → W (List PyData)} {mg : PyData → Env → W Env} {mb : Ms} {tb : TS} {kl : List Nat} (hi : TJIN c1 K wi mi) (hg : TJG K g mg) (hb : TJSN c2 K tb mb) : TJSN (c1 + turns * c2) K (tFor wi g tb) (sForN kl mi mg mb) := fun F hF B G fps env σ H n hn ok hm D q =>
  hi F hF (bas G H (fpsOf [F.op n]) []) G env σ H n (by omega) ok.view _ ((mi env).mono (fun ds q1 J G1 H1 e1 f1 wk => by
    obtain ⟨hlen, q1⟩ := q1
    have ok1 := ok.backN hF f1
    obtain ⟨fps0, ok0⟩ := ok1.kills kl
    have hstep : ∀ i, i ≤ ds.length → n + c1 + i * c2 ≤ n + (c1 + turns * c2) := fun i hi => by
      have := Nat.mul_le_mul_right c2 (Nat.le_trans hi hlen)
      omega
    refine ⟨fun i m σ H => m = ds.length - i ∧ i ≤ ds.length ∧ ∃ Gi fpi ei, Ex G1 Gi ∧ Ok K (B.wth F (n + c1 + i * c2)) Gi fpi ei σ H ∧ (loopM kl mg mb (ds.drop i) ei).run fun r => ∀ G' fps' σ' H', Ex G G' → Ok K (B.wth F (n + (c1 + turns * c2))) G' fps' r.2 σ' H' → FlOk K B D r.1 G' σ' H',
      ⟨ds.length, rfl, Nat.zero_le _, G1, fps0, _, Ex.refl _, by rw [Nat.zero_mul]; exact ok0, q1⟩, ?_⟩
    rintro i m σ2 H2 ⟨rfl, hi2, Gi, fpi, ei, eGi, oki, hrun⟩
    rcases Nat.lt_or_ge i ds.length with hlt | hge
    · refine .inr ⟨wk.goes i H2 hlt (eGi.trans oki.fra.ex), fun σ' H' => ∃ Gi fpi ei, Ex G1 Gi ∧ Ok K (B.wth F (n + c1 + (i + 1) * c2)) Gi fpi ei σ' H' ∧ (loopM kl mg mb (ds.drop (i + 1)) ei).run fun r => ∀ G' fps' σ' H', Ex G G' → Ok K (B.wth F (n + (c1 + turns * c2))) G' fps' r.2 σ' H' → FlOk K B D r.1 G' σ' H',
        fun σ' H' h => ⟨ds.length - (i + 1), by omega, rfl, hlt, h⟩, fun x H3 hy => ?_⟩
      obtain ⟨G3, d, st, hd, dx⟩ := wk.yields i Gi H2 x H3 hlt eGi oki.fra.ex hy
      have e3 : Ex Gi G3 := (st.fra oki.fra).2
      have ok3 : Ok K (B.wth F (n + c1 + i * c2)) G3 fpi ei σ2 H3 := by
        cases st with
        | same => exact oki
        | new hp => exact (oki.alloc hp).1
      rw [List.drop_eq_getElem_cons hlt, (List.getElem?_eq_some_iff.mp hd).2] at hrun
      have hs1 := hstep (i + 1) hlt
      have hmul : (i + 1) * c2 = i * c2 + c2 := Nat.succ_mul i c2
      refine hg _ G3 fpi ei σ2 H3 x d ok3 dx _ (W.mono _ (fun e2 q2 fp4 σ4 ok4 => ?_) hrun)
      refine hb F hF B G3 fp4 e2 σ4 H3 _ (by omega) ok4 hm _ (W.mono _ (fun r q3 G5 fp5 σ5 H5 e5 ok5 => ?_) q2)
      obtain ⟨fl, e6⟩ := r
      obtain ⟨fp6, ok6⟩ := ok5.kills kl
      cases fl with
      | nx => exact ⟨G5, fp6, _, (eGi.trans e3).trans e5, ok6.to hF (by omega), q3⟩
      | ct => exact ⟨G5, fp6, _, (eGi.trans e3).trans e5, ok6.to hF (by omega), q3⟩
      | bk => exact q3 G5 fp6 σ5 H5 (((e1.trans eGi).trans e3).trans e5) (ok6.to hF (by omega))
      | rt v => exact q3 G5 fp5 σ5 H5 (((e1.trans eGi).trans e3).trans e5) (ok5.to hF (by omega))
    · have hi3 : i = ds.length := by omega
      subst hi3
      rw [List.drop_eq_nil_of_le (Nat.le_refl _)] at hrun
      exact .inl ⟨wk.stops H2 (eGi.trans oki.fra.ex), hrun Gi fpi σ2 H2 (e1.trans eGi) (oki.to hF (hstep _ (Nat.le_refl _)))⟩) q)
/-! a def's body -/
theorem fn_bodyN {N : List Str} {n k : Nat} {ms : Ms} (h : TJSN c K tu ms) (hN : N.length = n + k) {vs : List V} {H : Hp} {Q : VK} {E : XK} (hs : spFN c K n (mFn k ms) vs H Q E) : tu { nx := fun _ H' => Q .non H', rt := Q } (start N vs) H := by
  obtain ⟨F, kk, G, args, hF, hk, f, hl, hp, hrun⟩ := hs
  have lv := paired_len hp
  have ok : Ok K ((bas G H F.fp []).wth F kk) G (List.replicate (n + k) none) (args ++ List.replicate k .any) (start N vs) H := by
    refine ⟨f, ?_, ?_, fun i => ?_, fun i j p hi _ => ?_⟩
    · simp [L2.start, hl, lv, hN]
    · simp [L2.start, hl, lv, hN]
    · have e1 : fg (List.replicate (n + k) none) i = none := getD_rep
      rw [e1]
      have e2 : gt (args ++ List.replicate k .any) i = if i < args.length then gt args i else .any := by
        unfold gt; rw [getD_app, getD_rep]
      rw [e2]
      by_cases c : i < args.length
      · rw [if_pos c]
        have c' : i < vs.length := by omega
        have e3 : sg (start N vs) i = some vs[i] := by
          unfold sg L2.start
          rw [getD_app, if_pos (by simpa using c')]
          simp [List.getD_eq_getElem?_getD, c']
        have e4 : gt args i = args[i] := by simp [gt, List.getD_eq_getElem?_getD, c]
        have r := paired_at hp i c' c
        rw [e3, e4]
        cases e5 : args[i] with
        | imm d => rw [e5] at r; exact ⟨rfl, _, rfl, r⟩
        | opq q => rw [e5] at r; obtain ⟨o, o1, o2⟩ := r; exact ⟨rfl, o, o1, by rw [o2]⟩
        | adr q => rw [e5] at r; exact ⟨rfl, _, rfl, r⟩
        | rK d => rw [e5] at r; obtain ⟨p, es, o1, o2⟩ := r; exact ⟨rfl, p, es, by rw [o1], o2⟩
        | rT d => rw [e5] at r; obtain ⟨p, es, o1, o2⟩ := r; exact ⟨rfl, p, es, by rw [o1], o2⟩
        | _ => rw [e5] at r; exact r.elim
      · rw [if_neg c]; exact rfl
    · have e1 : fg (List.replicate (n + k) none) i = none := getD_rep
      rw [e1] at hi; cases hi
  have ht : Tight ((bas G H F.fp []).wth F kk) := by show F.fp = fpsOf [F.op kk]; simp [fpsOf, Fam.op]
  refine h F hF (bas G H F.fp []) G _ _ _ H kk hk ok ht _ (W.mono _ (fun r q G' fps' σ' H' e ok' => ?_) hrun)
  obtain ⟨fl, e'⟩ := r
  cases fl with
  | rt v => exact fun u hu => q u G' H' e ok'.fra hu
  | nx => exact q .non G' H' e ok'.fra .non
  | bk => exact q.elim
  | ct => exact q.elim
end
end Z
namespace Z
variable [PoC] [FaC]
open PySem PySem.Spec PyProof.Rows L2
open Evl (Ex fresh_back)
/-! ### expressions with draws in them: tests, built-ins, rows -/
section
variable {K : PySem.W.Frag} {te ta tb : TE} {m ma mb : Env → W PyData} {ml : Env → W (List PyData)} {t u : TT} {mt mu : Env → W Bool} {c d c1 c2 c3 : Nat}
theorem tjtn_up (d : Nat) (h : TJTN c K t mt) : TJTN (c + d) K t mt := fun F hF B G env σ H n hn ok Q q =>
  h F hF B G env σ H n (by omega) ok Q ((mt env).mono (fun x k G' H' e f => k G' H' e (Fra.asc (f.wup hF))) q)
theorem tjtn_test (h : TJN c K te m) : TJTN c K (tTest te) (mBool m) := fun F hF B G env σ H n hn ok Q q =>
  h F hF B G env σ H n hn ok _ ((m env).mono (fun d q1 v G1 H1 e1 f1 d1 => by
    cases d with
    | bool b => cases d1; exact ⟨b, rfl, q1 G1 H1 e1 f1⟩
    | _ => exact q1.elim) q)
theorem tjtn_b (h : TJN c K te m) : TJTN c K (tB te) (mBool m) := tjtn_test h
theorem tjtn_and (h1 : TJTN c1 K t mt) (h2 : TJTN c2 K u mu) : TJTN (c1 + c2) K (tAnd t u) (mAnd mt mu) := fun F hF B G env σ H n hn ok Q q =>
  h1 F hF B G env σ H n (by omega) ok _ ((mt env).mono (fun b q1 G1 H1 e1 f1 => by
    cases b with
    | true => exact h2 F hF B G1 env σ H1 (n + c1) (by omega) (ok.wgo e1 f1) Q ((mu env).mono (fun c q2 G2 H2 e2 f2 => q2 G2 H2 (e1.trans e2) f2.asc) q1)
    | false => exact q1 G1 H1 e1 (f1.to hF (by omega))) q)
theorem tjtn_or (h1 : TJTN c1 K t mt) (h2 : TJTN c2 K u mu) : TJTN (c1 + c2) K (tOr t u) (mOr mt mu) := fun F hF B G env σ H n hn ok Q q =>
  h1 F hF B G env σ H n (by omega) ok _ ((mt env).mono (fun b q1 G1 H1 e1 f1 => by
    cases b with
    | false => exact h2 F hF B G1 env σ H1 (n + c1) (by omega) (ok.wgo e1 f1) Q ((mu env).mono (fun c q2 G2 H2 e2 f2 => q2 G2 H2 (e1.trans e2) f2.asc) q1)
    | true => exact q1 G1 H1 e1 (f1.to hF (by omega))) q)
theorem tjtn_not (h1 : TJTN c K t mt) : TJTN c K (tNot t) (mNot mt) := fun F hF B G env σ H n hn ok Q q =>
  h1 F hF B G env σ H n hn ok _ ((mt env).mono (fun b q1 G1 H1 e1 f1 => q1 G1 H1 e1 f1) q)
theorem tjn_if (hc : TJTN c1 K t mt) (h1 : TJN c2 K ta ma) (h2 : TJN c3 K tb mb) : TJN (c1 + (c2 + c3)) K (tIf t ta tb) (mIf mt ma mb) := fun F hF B G env σ H n hn ok Q q =>
  hc F hF B G env σ H n (by omega) ok _ ((mt env).mono (fun b q1 G1 H1 e1 f1 => by
    cases b with
    | true => exact h1 F hF B G1 env σ H1 (n + c1) (by omega) (ok.wgo e1 f1) Q ((ma env).mono (fun c q2 w G2 H2 e2 f2 => q2 w G2 H2 (e1.trans e2) (f2.to hF (by omega))) q1)
    | false => exact h2 F hF B G1 env σ H1 (n + c1) (by omega) (ok.wgo e1 f1) Q ((mb env).mono (fun c q2 w G2 H2 e2 f2 => q2 w G2 H2 (e1.trans e2) (f2.to hF (by omega))) q1)) q)
theorem tjn_cb {r : List V → Hp → VK → Prop} {f : List PyData → W PyData} {tl : TA} {md : Env → W (List PyData)} (hr : CJ K r f) (ha : TJDN c K tl md) : TJN c K (tCB r tl) (mCB f md) := fun F hF B G env σ H n hn ok Q q =>
  ha F hF B G env σ H n hn ok _ ((md env).mono (fun ds q1 vs G1 H1 e1 f1 d1 => hr G1 H1 vs ds f1.ex d1 Q ((f ds).mono (fun d q3 w G3 H3 st d3 => q3 w G3 H3 (e1.trans (st.fra f1).2) (st.fra f1).1 d3) q1)) q)
theorem tjln_cb {r : List V → Hp → VK → Prop} {f : List PyData → W (List PyData)} {tl : TA} {md : Env → W (List PyData)} (hr : CJL K r f) (ha : TJDN c K tl md) : TJLN c K (tCB r tl) (mCBL f md) := fun F hF B G env σ H n hn ok Q q =>
  ha F hF B G env σ H n hn ok _ ((md env).mono (fun ds q1 vs G1 H1 e1 f1 d1 => hr G1 H1 vs ds f1.ex d1 Q ((f ds).mono (fun es q3 p ws hp d3 => q3 p ws G1 _ e1 (f1.lay hp) (f1.free hp) (fresh_back f1.ex hp) upd_same d3) q1)) q)
theorem tjin_seq {tl : TE} {m : Env → W PyData} (h : TJN c K tl m) : TJIN c K (iSeqZ K tl) (mSeqI m) := fun F hF B G env σ H n hn ok R q =>
  h F hF B G env σ H n hn ok _ ((m env).mono (fun d q1 v G1 H1 e1 f1 d1 => by
    cases d with
    | list ds =>
      obtain ⟨p, vs, rfl, h1, h2⟩ := dp_lst d1
      exact .inl ⟨p, rfl, ⟨vs, ex_l f1.ex h1⟩, q1 _ G1 H1 e1 f1 (walkD_list h1 h2)⟩
    | tuple ds =>
      obtain ⟨p, vs, rfl, h1, h2⟩ := dp_tup d1
      exact .inr (.inl ⟨p, rfl, ⟨vs, ex_t f1.ex h1⟩, q1 _ G1 H1 e1 f1 (walkD_tup h1 h2)⟩)
    | str z => cases d1; exact .inr (.inr ⟨z, rfl, q1 _ G1 H1 e1 f1 walkD_str⟩)
    | _ => exact q1.elim) q)
theorem tjin_rng1 {ta : TA} {md : Env → W (List PyData)} (h : TJDN c K ta md) : TJIN c K (iRng1 ta) (mRng rng1 md) := fun F hF B G env σ H n hn ok R q =>
  h F hF B G env σ H n hn ok _ ((md env).mono (fun ds q1 vs G1 H1 e1 f1 d1 => by
    match ds, d1, q1 with
    | [.int j], d1, q1 =>
      obtain ⟨v, rfl, hv⟩ := dpa_one d1
      cases hv
      exact ⟨j, rfl, q1.1.1, q1.1.2, q1.2 _ G1 H1 e1 f1 walkD_rng⟩) q)
theorem tjin_rng2 {ta : TA} {md : Env → W (List PyData)} (h : TJDN c K ta md) : TJIN c K (iRng2 ta) (mRng rng2 md) := fun F hF B G env σ H n hn ok R q =>
  h F hF B G env σ H n hn ok _ ((md env).mono (fun ds q1 vs G1 H1 e1 f1 d1 => by
    match ds, d1, q1 with
    | [.int i, .int j], d1, q1 =>
      obtain ⟨v, w, rfl, hv, hw⟩ := dpa_two d1
      cases hv; cases hw
      exact ⟨i, j, rfl, q1.1, q1.2 _ G1 H1 e1 f1 walkD_rng⟩) q)
theorem tjn_join {to ta : TE} {mo ma : Env → W PyData} (ho : TJN c1 K to mo) (ha : TJN c2 K ta ma) : TJN (c1 + c2) K (tBM K "str" (rJoinZ K) to (tCons ta tNil)) (mJoin mo ma) := fun F hF B G env σ H n hn ok Q q =>
  ho F hF B G env σ H n (by omega) ok _ ((mo env).mono (fun d q1 v G1 H1 e1 f1 d1 => by
    obtain ⟨a, rfl, q1⟩ := asStr_run q1
    cases d1
    refine ⟨rfl, ha F hF B G1 env σ H1 (n + c1) (by omega) (ok.wgo e1 f1) _ ((ma env).mono (fun b q2 u G2 H2 e2 f2 d2 => ?_) q1)⟩
    cases b with
    | list ds =>
      obtain ⟨p, vs, rfl, h1, h2⟩ := dp_lst d2
      simp only [joinOf] at q2
      cases c : strsD ds with
      | none => rw [c] at q2; exact q2.elim
      | some ys =>
        rw [c] at q2
        exact ⟨a, p, ys, rfl, rfl, .inl (strsD_vs h2 c ▸ ex_l f2.ex h1), q2.1, q2.2 _ G2 H2 (e1.trans e2) f2.asc (.str _)⟩
    | tuple ds =>
      obtain ⟨p, vs, rfl, h1, h2⟩ := dp_tup d2
      simp only [joinOf] at q2
      cases c : strsD ds with
      | none => rw [c] at q2; exact q2.elim
      | some ys =>
        rw [c] at q2
        exact ⟨a, p, ys, rfl, rfl, .inr (strsD_vs h2 c ▸ ex_t f2.ex h1), q2.1, q2.2 _ G2 H2 (e1.trans e2) f2.asc (.str _)⟩
    | _ => exact q2.elim) q)
theorem Fra.backN {B : Ba} {F : Fam} {n k : Nat} {G H G' H' : Hp} (hF : FamP F) (f : Fra (B.wth F n) G H) (h : n ≤ k) (f2 : Fra ((bas G H (fpsOf [F.op n]) []).wth F k) G' H') : Fra (B.wth F k) G' H' := by
  refine (f.to hF h).back (fun a ha => ?_) f2
  have ha' : a ∈ F.fp := by simpa [fpsOf, Fam.op] using ha
  exact .inl ((f.ops (F.op n) (List.mem_singleton.mpr rfl)).2 a ha').2
/-- a comprehension whose test and element draw -/
theorem tjln_lc {wi : TI} {g : TG} {tt : TT} {te : TE} {ws : List Nat} {mi : Env → W (List PyData)} {mg : PyData → Env → W Env} {mt : Env → W Bool} {me : Env → W PyData} (hi : TJIN c1 K wi mi) (hg : TJGr K ws g mg) (ht : TJTN c2 K tt mt) (he : TJN c3 K te me) :
    TJLN (c1 + turns * (c2 + c3)) K (tLc wi g tt te ws) (mLc ws mi mg mt me) := fun F hF B G env σ H n hn ok Q q =>
  hi F hF B G env σ H n (by omega) ok _ ((mi env).mono (fun ds q1 J G1 H1 e1 f1 wk D hD => by
    obtain ⟨hz, q1⟩ := q1
    have hlen : ds.length ≤ turns := Nat.le_trans hz (by decide)
    have hstep : ∀ i, i ≤ ds.length → n + c1 + i * (c2 + c3) ≤ n + (c1 + turns * (c2 + c3)) := fun i hi => by
      have := Nat.mul_le_mul_right (c2 + c3) (Nat.le_trans hi hlen)
      omega
    have hb : B.H D = none := f1.free hD
    have hno : ∀ k, ∀ p ∈ [F.op k], D ∉ p.fp := fun k p hp z => by
      obtain rfl := List.mem_singleton.mp hp
      exact f1.opH (F.op _) (List.mem_singleton.mpr rfl) D z hb
    refine ⟨fun i m H => m = ds.length - i ∧ i ≤ ds.length ∧ ∃ Gi acc ads, Ex G1 Gi ∧ Fra (B.wth F (n + c1 + i * (c2 + c3))) Gi H ∧ H D = some (.lst acc) ∧ Gi D = none ∧ DpAll K Gi acc ads ∧ acc.length ≤ i ∧
      (lcM mg mt me (wipeE env ws) (ds.drop i)).run fun rest => ∀ p vs G' H', Ex G G' → Fra (B.wth F (n + (c1 + turns * (c2 + c3)))) G' H' → B.H p = none → G' p = none → H' p = some (.lst vs) → DpAll K G' vs (ads ++ rest) → Q (.ref p) H',
      ⟨ds.length, rfl, Nat.zero_le _, G1, [], [], Ex.refl _, by rw [Nat.zero_mul]; exact f1.lay hD, upd_same, fresh_back f1.ex hD, .nil, Nat.zero_le _, q1⟩, ?_⟩
    rintro i m H2 ⟨rfl, hi2, Gi, acc, ads, eGi, fi, hDa, hGD, hda, hal, hrun⟩
    rcases Nat.lt_or_ge i ds.length with hlt | hge
    · have hs1 := hstep (i + 1) hlt
      have hmul : (i + 1) * (c2 + c3) = i * (c2 + c3) + (c2 + c3) := Nat.succ_mul i _
      refine .inr ⟨wk.goes i H2 hlt (eGi.trans fi.ex), fun H' => ∃ Gi acc ads, Ex G1 Gi ∧ Fra (B.wth F (n + c1 + (i + 1) * (c2 + c3))) Gi H' ∧ H' D = some (.lst acc) ∧ Gi D = none ∧ DpAll K Gi acc ads ∧ acc.length ≤ i + 1 ∧
        (lcM mg mt me (wipeE env ws) (ds.drop (i + 1))).run fun rest => ∀ p vs G' H', Ex G G' → Fra (B.wth F (n + (c1 + turns * (c2 + c3)))) G' H' → B.H p = none → G' p = none → H' p = some (.lst vs) → DpAll K G' vs (ads ++ rest) → Q (.ref p) H',
        fun H' h => ⟨ds.length - (i + 1), by omega, rfl, hlt, h⟩, fun x H3 hy => ?_⟩
      obtain ⟨G3, d, st, hd, dx⟩ := wk.yields i Gi H2 x H3 hlt eGi fi.ex hy
      obtain ⟨f3, e3⟩ := st.fra fi
      have hD3 : H3 D = some (.lst acc) ∧ G3 D = none := by
        cases st with
        | same => exact ⟨hDa, hGD⟩
        | new hp =>
          have ne : D ≠ _ := ne_fr (H := H2) (by rw [hDa]; simp) hp
          exact ⟨by rw [upd_ne ne]; exact hDa, by rw [upd_ne ne]; exact hGD⟩
      rw [List.drop_eq_getElem_cons hlt, (List.getElem?_eq_some_iff.mp hd).2] at hrun
      have hne : H3 D ≠ none := by rw [hD3.1]; simp
      generalize hlv : n + c1 + i * (c2 + c3) = lv at *
      have ok2 : ROk K (B.wth F lv) G3 env σ H3 := by
        have : lv = n + (c1 + i * (c2 + c3)) := by omega
        subst this
        exact ok.wgo ((e1.trans eGi).trans e3) f3
      have okr : ROk K ((bas G3 H3 (fpsOf [F.op lv]) []).wth F lv) G3 (wipeE env ws) (wipe σ ws) H3 := (ok2.wipe ws).reb
      have hDm : D ∉ fpsOf [F.op lv] := fun z => (mem_fpsOf.mp z).elim fun p w => hno lv p w.1 w.2
      refine hg _ G3 _ _ H3 x d okr dx _ (W.mono _ (fun ev q2 σ' ok' hw => ⟨by rw [hw]; exact wipe_idem σ ws, ?_⟩) hrun)
      refine ht F hF (bas G3 H3 (fpsOf [F.op lv]) []) G3 ev σ' H3 lv (by omega) ok' _ (W.mono _ (fun b q3 G4 H4 e4 f4 => ?_) q2)
      have hD4 : H4 D = some (.lst acc) := f4.keep D _ hD3.1 hDm
      have gD4 : G4 D = none := f4.new D hne hD3.2
      cases b with
      | false => exact ⟨G4, acc, ads, (eGi.trans e3).trans e4, (f3.backN hF (by omega) f4).to hF (by omega), hD4, gD4, dpa_ex (e3.trans e4) hda, by omega, q3⟩
      | true =>
        refine he F hF (bas G3 H3 (fpsOf [F.op lv]) []) G4 ev σ' H4 (lv + c2) (by omega) (ok'.wgo e4 f4) _ (W.mono _ (fun y q4 v G5 H5 e5 f5 d5 => ?_) q3)
        have hD5 : H5 D = some (.lst acc) := f5.keep D _ hD3.1 hDm
        have gD5 : G5 D = none := f5.new D hne hD3.2
        refine ⟨acc, hD5, by omega, G5, acc ++ [v], ads ++ [y], ((eGi.trans e3).trans e4).trans e5, (((f3.backN hF (by omega) f5).to hF (n' := n + c1 + (i + 1) * (c2 + c3)) (by omega))).wr ⟨gD5, .inr hb, hno _⟩ (fun _ _ z => by rw [hD5] at z; cases z), upd_same, gD5, dpa_app (dpa_ex ((e3.trans e4).trans e5) hda) (.cons d5 .nil), by simp; omega, ?_⟩
        refine W.mono _ (fun rest q5 => ?_) q4
        simpa [List.append_assoc] using q5
    · have hi3 : i = ds.length := by omega
      subst hi3
      rw [List.drop_eq_nil_of_le (Nat.le_refl _)] at hrun
      refine .inl ⟨wk.stops H2 (eGi.trans fi.ex), ?_⟩
      have := hrun D acc Gi H2 (e1.trans eGi) (fi.to hF (hstep _ (Nat.le_refl _))) hb hGD hDa (by simpa using hda)
      exact this) q)
end
end Z
namespace Z
variable [PoC] [FaC]
open PySem PySem.Spec PyProof.Rows L2
open Evl (Ex fresh_back)
/-! ### expressions that draw and change boxes -/
def TJMN (c : Nat) (K : PySem.W.Frag) (te : TE) (m : Env → W (PyData × Env)) : Prop :=
  ∀ (F : Fam), FamP F → ∀ (B : Ba) (G : Hp) (fps : Fps) (env : Env) (σ : L2.St) (H : Hp) (n : Nat), n + c ≤ nMax → Ok K (B.wth F n) G fps env σ H → ∀ Q : VK,
    ((m env).run fun r => ∀ v G' fps' H', Ex G G' → Ok K (B.wth F (n + c)) G' fps' r.2 σ H' → Dp K G' v r.1 → Q v H') → te σ H Q
def TJLMN (c : Nat) (K : PySem.W.Frag) (te : TE) (m : Env → W (List PyData × Env)) : Prop :=
  ∀ (F : Fam), FamP F → ∀ (B : Ba) (G : Hp) (fps : Fps) (env : Env) (σ : L2.St) (H : Hp) (n : Nat), n + c ≤ nMax → Ok K (B.wth F n) G fps env σ H → ∀ Q : VK,
    ((m env).run fun r => ∀ p vs G' fps' H', Ex G G' → Ok K (B.wth F (n + c)) G' fps' r.2 σ H' → B.H p = none → G' p = none → (∀ i, fg fps' i ≠ some p) → H' p = some (.lst vs) → DpAll K G' vs r.1 → Q (.ref p) H') → te σ H Q
section
variable {K : PySem.W.Frag} {te ta tb : TE} {m ma mb : Env → W PyData} {c d c1 c2 c3 : Nat}
theorem tjmn_of (h : TJN c K te m) : TJMN c K te (mOf m) := fun F hF B G fps env σ H n hn ok Q q =>
  ok.evN hF hn h ((m env).mono (fun d k v G' H' e ok' dv => k v G' fps H' e ok' dv) q)
theorem tjmn_frz {ml : Env → W (List PyData × Env)} (h : TJLMN c K te ml) : TJMN c K te (mFrzM ml) := fun F hF B G fps env σ H n hn ok Q q =>
  h F hF B G fps env σ H n hn ok Q ((ml env).mono (fun r k p vs G' fps' H' e ok' h0 hg hf hp hd => by
    obtain ⟨ok2, e2⟩ := ok'.frzO h0 hg hf hp
    exact k _ _ fps' H' (e.trans e2) ok2 (.lst (Or.inl (Or.inl upd_same)) (dpa_ex e2 hd))) q)
theorem tjmn_cb {r : List V → Hp → VK → Prop} {f : List PyData → W PyData} {mm : Env → W (PyData × Env)} (hr : CJ K r f) (h : TJMN c K te mm) : TJMN c K (tCB r (tCons te tNil)) (mCBM f mm) := fun F hF B G fps env σ H n hn ok Q q =>
  h F hF B G fps env σ H n hn ok _ ((mm env).mono (fun a k v G1 fps1 H1 e1 ok1 d1 => hr G1 H1 [v] [a.1] ok1.fra.ex (.cons d1 .nil) Q ((f [a.1]).mono (fun d k2 w G2 H2 st d2 => k2 w G2 fps1 H2 (e1.trans (ok1.stp st).2) (ok1.stp st).1 d2) k)) q)
theorem tjlmn_cb {r : List V → Hp → VK → Prop} {f : List PyData → W (List PyData)} {mm : Env → W (PyData × Env)} (hr : CJL K r f) (h : TJMN c K te mm) : TJLMN c K (tCB r (tCons te tNil)) (mCBLM f mm) := fun F hF B G fps env σ H n hn ok Q q =>
  h F hF B G fps env σ H n hn ok _ ((mm env).mono (fun a k v G1 fps1 H1 e1 ok1 d1 => hr G1 H1 [v] [a.1] ok1.fra.ex (.cons d1 .nil) Q ((f [a.1]).mono (fun d k2 p ws hp d2 =>
    k2 p ws G1 fps1 _ e1 (ok1.lay hp) (ok1.fra.free hp) (fresh_back ok1.fra.ex hp) (fun i => ok1.fps_ne hp i) upd_same d2) k)) q)
theorem tjmn_popAt {i : Nat} (h : TJN c K te m) : TJMN c K (tBM K "list" rPopAt (tVar i) (tCons te tNil)) (mPopAt i m) := fun F hF B G fps env σ H n hn ok Q q => by
  obtain ⟨ds, hg, q⟩ := asL_run q
  obtain ⟨p, vs, h1, h2, h3, h4, h5⟩ := ok.lstAt hg
  refine ⟨_, sg_some h2, tyV_lst h4, ok.evN hF hn h ((m env).mono (fun d k v G' H' e ok' dv => ?_) q)⟩
  obtain ⟨p', vs', h1', h2', h3', h4', h5'⟩ := ok'.lstAt hg
  rw [h1] at h1'
  cases h1'
  cases d with
  | int x =>
    cases dv
    cases c : ds[x.toNat]? with
    | none => simp only [c] at k; exact k.elim
    | some d =>
      simp only [c] at k
      obtain ⟨v, c1, c2⟩ := dpa_get h5' c
      have hl : x.toNat < vs'.length := (List.getElem?_eq_some_iff.mp c1).1
      exact ⟨p, vs', x, x.toNat, v, rfl, rfl, h4', by have := k.1.1; omega, k.1.2, seqIx k.1.1 hl, c1, k.2 v G' fps _ e (ok'.wrB h1 (s := .lst (ds.eraseIdx x.toNat)) ⟨p, _, rfl, rfl, h3', upd_same, dpa_erase _ h5'⟩) c2⟩
  | _ => exact k.elim
theorem tjlmn_lc {wi : TI} {i : Nat} {mi : Env → W (List PyData)} {me : Env → W (PyData × Env)} (hi : TJIN c1 K wi mi) (he : TJMN c2 K te me) : TJLMN (c1 + turns * c2) K (tLc wi (gName i) tYes te [i]) (mLcM i mi me) := fun F hF B G fps env σ H k0 hk ok Q q =>
  hi F hF (bas G H (fpsOf [F.op k0]) []) G env σ H k0 (by omega) ok.view _ ((mi env).mono (fun ds q1 J G1 H1 e1 f1 wk D hD => by
    obtain ⟨hz, q1⟩ := q1
    have hlen : ds.length ≤ turns := Nat.le_trans hz (by decide)
    have hstep : ∀ i, i ≤ ds.length → k0 + c1 + i * c2 ≤ k0 + (c1 + turns * c2) := fun i hi => by
      have := Nat.mul_le_mul_right c2 (Nat.le_trans hi hlen)
      omega
    have ok1 := ok.backN hF f1
    have hb : B.H D = none := ok1.fra.free hD
    have hno : ∀ k, ∀ p ∈ [F.op k], D ∉ p.fp := fun k p hp z => by
      obtain rfl := List.mem_singleton.mp hp
      exact ok.fra.opH (F.op k0) (List.mem_singleton.mpr rfl) D z hb
    obtain ⟨fps0, ok0, hf0⟩ := ok1.wipe [i]
    refine ⟨fun n m H => m = ds.length - n ∧ n ≤ ds.length ∧ ∃ Gi fpi ei acc ads, Ex G1 Gi ∧ Ok K (B.wth F (k0 + c1 + n * c2)) Gi fpi ei (wipe σ [i]) H ∧ H D = some (.lst acc) ∧ Gi D = none ∧ (∀ i, fg fpi i ≠ some D) ∧ DpAll K Gi acc ads ∧ acc.length ≤ n ∧
      (lcMM [i] i me (ds.drop n) ei).run fun r => ∀ p vs G' fps' H', Ex G G' → Ok K (B.wth F (k0 + (c1 + turns * c2))) G' fps' r.2 σ H' → B.H p = none → G' p = none → (∀ i, fg fps' i ≠ some p) → H' p = some (.lst vs) → DpAll K G' vs (ads ++ r.1) → Q (.ref p) H',
      ⟨ds.length, rfl, Nat.zero_le _, G1, fps0, _, [], [], Ex.refl _, by rw [Nat.zero_mul]; exact ok0.lay hD, upd_same, fresh_back f1.ex hD, fun j z => ok0.fps_ne hD j z, .nil, Nat.zero_le _, q1⟩, ?_⟩
    rintro n m H2 ⟨rfl, hn2, Gi, fpi, ei, acc, ads, eGi, oki, hDa, hGD, hfD, hda, hal, hrun⟩
    rcases Nat.lt_or_ge n ds.length with hlt | hge
    · have hs1 := hstep (n + 1) hlt
      have hmul : (n + 1) * c2 = n * c2 + c2 := Nat.succ_mul n c2
      refine .inr ⟨wk.goes n H2 hlt (eGi.trans oki.fra.ex), fun H' => ∃ Gi fpi ei acc ads, Ex G1 Gi ∧ Ok K (B.wth F (k0 + c1 + (n + 1) * c2)) Gi fpi ei (wipe σ [i]) H' ∧ H' D = some (.lst acc) ∧ Gi D = none ∧ (∀ i, fg fpi i ≠ some D) ∧ DpAll K Gi acc ads ∧ acc.length ≤ n + 1 ∧
        (lcMM [i] i me (ds.drop (n + 1)) ei).run fun r => ∀ p vs G' fps' H', Ex G G' → Ok K (B.wth F (k0 + (c1 + turns * c2))) G' fps' r.2 σ H' → B.H p = none → G' p = none → (∀ i, fg fps' i ≠ some p) → H' p = some (.lst vs) → DpAll K G' vs (ads ++ r.1) → Q (.ref p) H',
        fun H' h => ⟨ds.length - (n + 1), by omega, rfl, hlt, h⟩, fun x H3 hy => ?_⟩
      obtain ⟨G3, d, st, hd, dx⟩ := wk.yields n Gi H2 x H3 hlt eGi oki.fra.ex hy
      obtain ⟨ok3, e3⟩ := oki.stp st
      have hD3 : H3 D = some (.lst acc) ∧ G3 D = none := by
        cases st with
        | same => exact ⟨hDa, hGD⟩
        | new hp =>
          have ne : D ≠ _ := ne_fr (H := H2) (by rw [hDa]; simp) hp
          exact ⟨by rw [upd_ne ne]; exact hDa, by rw [upd_ne ne]; exact hGD⟩
      have hne : H3 D ≠ none := by rw [hD3.1]; simp
      rw [List.drop_eq_getElem_cons hlt, (List.getElem?_eq_some_iff.mp hd).2] at hrun
      generalize hlv : k0 + c1 + n * c2 = lv at *
      have ok4 : Ok K (B.wth F lv) G3 (fpi.set i none) (ei.set i (.imm d)) ((wipe σ [i]).set i (some x)) H3 := ok3.put (f := none) (s := .imm d) (o := some x) ⟨rfl, x, rfl, dx⟩ (fun p j z => by cases z)
      have hf4 : ∀ j, fg (fpi.set i none) j ≠ some D := fun j z => by
        rw [fg_set] at z
        split at z
        · cases z
        · exact hfD j z
      have hDm : D ∉ muOf (B.wth F lv) (fpi.set i none) := fun z => by
        rcases List.mem_append.mp z with h | h
        · exact (mem_fpsOf.mp h).elim fun p w => hno lv p w.1 w.2
        · obtain ⟨f, hf, e⟩ := List.mem_filterMap.mp h
          obtain ⟨j, hj, e2⟩ := List.getElem_of_mem hf
          exact hf4 j (by unfold fg; rw [List.getD_eq_getElem?_getD, List.getElem?_eq_getElem hj, e2]; exact e)
      refine ⟨wipe_set (wipe σ [i]) (List.mem_singleton.mpr rfl) |>.trans (wipe_idem σ [i]), ?_⟩
      show te _ H3 _
      refine he F hF (bas G3 H3 (muOf (B.wth F lv) (fpi.set i none)) []) G3 _ _ _ H3 lv (by omega) ok4.reb _ (W.mono _ (fun y q4 v G5 fp5 H5 e5 ok5r d5 => ?_) hrun)
      have ok5 := (ok4.wup hF (c := c2)).unreb ok5r
      have hD5 : H5 D = some (.lst acc) := ok5r.fra.keep D _ hD3.1 hDm
      have gD5 : G5 D = none := ok5r.fra.new D hne hD3.2
      have hf5 : ∀ j, fg fp5 j ≠ some D := fun j z => by
        rcases ((ok5r.sl j).box z).1.2.1 with w | w
        · exact hDm w
        · exact hne w
      have ok6 := ok5.wrO (o := .lst (acc ++ [v])) ⟨gD5, .inr hb, hno _⟩ hf5 (fun _ _ z => by rw [hD5] at z; cases z)
      obtain ⟨fp7, ok7, hf7⟩ := ok6.wipe [i]
      have hw : wipe ((wipe σ [i]).set i (some x)) [i] = wipe σ [i] := (wipe_set (wipe σ [i]) (List.mem_singleton.mpr rfl)).trans (wipe_idem σ [i])
      rw [hw] at ok7
      refine ⟨acc, hD5, by omega, G5, fp7, _, acc ++ [v], ads ++ [y.1], (eGi.trans e3).trans e5, ok7.to hF (by omega), upd_same, gD5, fun j z => hf5 j (hf7 j D z), dpa_app (dpa_ex (e3.trans e5) hda) (.cons d5 .nil), by simp; omega, ?_⟩
      refine W.mono _ (fun rest q5 => ?_) q4
      simpa [List.append_assoc] using q5
    · have hn3 : n = ds.length := by omega
      subst hn3
      rw [List.drop_eq_nil_of_le (Nat.le_refl _)] at hrun
      refine .inl ⟨wk.stops H2 (eGi.trans oki.fra.ex), ?_⟩
      exact hrun D acc Gi fpi H2 (e1.trans eGi) (oki.unwipe.to hF (hstep _ (Nat.le_refl _))) hb hGD hfD hDa (by simpa using hda)) q)
theorem tjsn_asgM {i : Nat} {m : Env → W (PyData × Env)} (h : TJMN c K te m) : TJSN c K (tAsg te (gName i)) (sAsgM i m) := fun F hF B G fps env σ H n hn ok hm D q =>
  h F hF B G fps env σ H n hn ok _ ((m env).mono (fun d k v G' fps' H' e ok' dv => k G' _ _ H' e (ok'.put (i := i) (f := none) (s := .imm d.1) (o := some v) ⟨rfl, v, rfl, dv⟩ (fun p j z => by cases z))) q)
theorem tjsn_asgLM {i : Nat} {ml : Env → W (List PyData × Env)} (h : TJLMN c K te ml) : TJSN c K (tAsg te (gName i)) (sAsgLM i ml) := fun F hF B G fps env σ H n hn ok hm D q =>
  h F hF B G fps env σ H n hn ok _ ((ml env).mono (fun ds k p vs G' fps' H' e ok' h0 hg hf hp dv => k G' _ _ H' e (ok'.put (i := i) (f := some p) (s := .lst ds.1) (o := some (.ref p))
    ⟨p, vs, rfl, rfl, ⟨hg, .inr h0, fun q hq ha => (ok.wup hF (c := c)).fra.opH q hq p ha h0⟩, hp, dv⟩ (fun p' j z hj => by cases z; exact absurd hj (hf j)))) q)
theorem tjsn_retM {m : Env → W (PyData × Env)} (h : TJMN c K te m) : TJSN c K (tRet te) (sRetM m) := fun F hF B G fps env σ H n hn ok hm D q =>
  h F hF B G fps env σ H n hn ok _ ((m env).mono (fun d k v G' fps' H' e ok' dv => k G' fps' σ H' e ok' v dv) q)
theorem tjsn_retLM {ml : Env → W (List PyData × Env)} (h : TJLMN c K te ml) : TJSN c K (tRet te) (sRetLM ml) := fun F hF B G fps env σ H n hn ok hm D q =>
  h F hF B G fps env σ H n hn ok _ ((ml env).mono (fun d k p vs G' fps' H' e ok' h0 hg hf hp dv => k G' fps' σ H' e ok' _ ⟨p, vs, rfl, h0, hg, hp, dv⟩) q)
end
end Z
namespace Z
open PySem PySem.Spec PyProof.Rows L2
open Evl (Ex fresh_back)
/-! ### a deck: the script's cells, then a place, what is left of a cell, a count, a sum -/
structure DInv (n : Nat) (zs : List Int) : Prop where
  len : zs.length = 4
  i0 : 0 ≤ zs.getD 0 0
  i1 : 0 ≤ zs.getD 1 0
  i2 : 0 ≤ zs.getD 2 0 ∧ zs.getD 2 0 ≤ n
theorem DInv.up {n : Nat} {zs : List Int} (h : DInv n zs) (c : Nat) : DInv (n + c) zs := ⟨h.len, h.i0, h.i1, h.i2.1, by have := h.i2.2; omega⟩
def DeckF (a : Addr) (F : Fam) : Prop := F.fp = [F.p] ∧ ∀ n H, F.C n H ↔ ∃ zs, H F.p = some (.lst (.ref a :: zs.map V.int)) ∧ DInv n zs
section
variable [PoC] [FaC] {K : PySem.W.Frag} {tu : TS} {mu : Ms}
def DeckP (K : PySem.W.Frag) : Prop := ∃ (a : Addr) (ns : List Int), ns.length ≤ 63 ∧ SqL K0 PoC.S a (ns.map V.int) ∧ ∀ F, FaC.FO F → DeckF a F
theorem next_bodyN {N : List Str} {k : Nat} (hP : DeckP K) (h : ∀ p a ns, TJP p a ns K tu mu) (hN : N.length = 2 + k)
    (plain : ∀ (ns zs : List Int) (n : Int) (lv : Nat), ns.length ≤ 63 → DInv lv zs → lv + 1 ≤ nMax → 1 ≤ n ∧ n < 2 ^ 62 → (mu ([.lst (.list (ns.map PyData.int) :: zs.map PyData.int), .imm (.int n)] ++ List.replicate k .any)).run fun r =>
      (∃ x, r.1 = .rt (.im (.int x)) ∧ 0 ≤ x ∧ x < n) ∧ ∃ is, gt r.2 0 = .lst (.list (ns.map PyData.int) :: is.map PyData.int) ∧ DInv (lv + 1) is)
    {vs : List V} {H : Hp} {Q : VK} {E : XK} (hs : spFN 1 K 2 mNext vs H Q E) : tu { nx := fun _ H' => Q .non H', rt := Q } (start N vs) H := by
  obtain ⟨F, lv, G, args, hF, hlv, f, hl, hp, hrun⟩ := hs
  obtain ⟨a, ns, hn, hS, hO⟩ := hP
  match args, hp, hrun with
  | [.opq j, .imm (.int n)], .cons h1 (.cons h2 .nil), hrun =>
    obtain ⟨q, hq, rfl⟩ := h1
    cases h2
    have hqe : q = F.op lv := List.mem_singleton.mp (List.mem_of_getElem? hq)
    subst hqe
    obtain ⟨hfp, hC⟩ := hO F hF.2
    obtain ⟨hc, hg⟩ := f.ops (F.op lv) (List.mem_singleton.mpr rfl)
    obtain ⟨zs, e1, e2⟩ := (hC lv H).mp hc
    have gn : G F.p = none := (hg F.p (by show F.p ∈ F.fp; rw [hfp]; simp)).1
    have f1 : Fra (bas G H [F.p] []) G H := ⟨f.ex, Ex.refl _, fun _ _ e _ => e, fun _ e => e, fun _ _ e => e, fun q hq => (by cases hq), fun q hq => (by cases hq), fun q hq => (by cases hq), Nat.zero_le _, f.st, f.cl, f.tu⟩
    have dl : Dp K G (.ref a) (.list (ns.map PyData.int)) := dp_ex f.st (.lst hS (dp_nums (K := K) ns))
    have ok : Ok K (bas G H [F.p] []) G ([some F.p, none] ++ List.replicate k none) ([.lst (.list (ns.map PyData.int) :: zs.map PyData.int), .imm (.int n)] ++ List.replicate k .any) (start N [.ref F.p, .int n]) H := by
      refine ⟨f1, by simp [L2.start]; omega, by simp [L2.start]; omega, fun i => ?_, fun i j p hi hj => ?_⟩
      · match i with
        | 0 =>
          refine ⟨F.p, .ref a :: zs.map V.int, rfl, rfl, ⟨gn, .inl (by simp), fun q hq => by cases hq⟩, e1, .cons dl (dp_nums (K := K) _)⟩
        | 1 => exact ⟨rfl, .int n, rfl, .int n⟩
        | i + 2 =>
          have e3 : fg ([some F.p, none] ++ List.replicate k none) (i + 2) = none := by show (List.replicate k none).getD i none = none; exact getD_rep
          have e4 : gt ([.lst (.list (ns.map PyData.int) :: zs.map PyData.int), .imm (.int n)] ++ List.replicate k .any) (i + 2) = .any := by show (List.replicate k Sl.any).getD i .any = .any; exact getD_rep
          rw [e3, e4]
          exact rfl
      · have z : ∀ i, fg ([some F.p, none] ++ List.replicate k none) i = some p → i = 0 := fun i h => by
          match i with
          | 0 => rfl
          | 1 => cases h
          | i + 2 =>
            have e3 : fg ([some F.p, none] ++ List.replicate k none) (i + 2) = none := by show (List.replicate k none).getD i none = none; exact getD_rep
            rw [e3] at h; cases h
        rw [z i hi, z j hj]
    refine h F.p a ns _ G _ _ _ H ok ⟨zs, rfl, e1, rfl⟩ _ ((mu _).mono (fun r k1 G' fps' σ' H' e ok' ps' => ?_) (plain ns zs n lv hn e2 hlv hrun.1))
    obtain ⟨⟨x, rx, x0, x1⟩, is, gi, pi⟩ := k1
    obtain ⟨is', w1, w2, w3⟩ := ps'
    have ei : is' = is := by
      rw [gi] at w3
      injection w3 with w3
      injection w3 with _ w3
      exact (int_inj _ _ w3).symm
    subst ei
    rw [rx]
    intro v dv
    have f2 := ok'.fra
    have bx := ((ok'.sl 0).box w1).1
    refine hrun.2 x ⟨x0, x1⟩ v G' H' e ⟨f2.ex, e, fun b o hb hm => f2.keep b o hb (by rw [hfp] at hm; exact hm), f2.trk, f2.new, fun q' hq' => ?_, fun q' hq' => ?_, fun q' hq' => ?_, Nat.le_refl 1, f.st, f2.cl, f2.tu⟩ dv
    · obtain rfl := List.mem_singleton.mp hq'
      refine ⟨(hC (lv + 1) H').mpr ⟨_, w2, pi⟩, fun b hb => ⟨?_, hb⟩⟩
      have hb2 : b ∈ F.fp := hb
      rw [hfp] at hb2
      have : b = F.p := by simpa using hb2
      subst this
      exact bx.1
    · obtain rfl := List.mem_singleton.mp hq'
      exact f.opH (F.op lv) (List.mem_singleton.mpr rfl)
    · obtain rfl := List.mem_singleton.mp hq'
      exact hF.1 _
end
/-! ### the law's own body: it makes the deck, then the rest -/
abbrev Pix.decI {K : PySem.W.Frag} {ns : List Int} (i : Pix K ns) : PoC := ⟨fun q => ∃ F n, DeckF i.1.1 F ∧ q = F.op n, i.1.2, False⟩
abbrev Pix.decF {K : PySem.W.Frag} {ns : List Int} (i : Pix K ns) : FaC := ⟨DeckF i.1.1⟩
theorem Pix.D {K : PySem.W.Frag} {ns : List Int} (hn : ns.length ≤ 63) (i : Pix K ns) : @DeckP i.decI i.decF K := ⟨i.1.1, ns, hn, i.2, fun _ h => h⟩
theorem law_bodyN {c : Nat} {K : PySem.W.Frag} (hL : NoL K) (hc : c ≤ nMax) {N : List Str} {k : Nat} {te : TE} {ml : Env → W (List PyData)} {ns : List Int} {tr : Pix K ns → TS} {ms : Ms} (hN : N.length = 2 + k) (h1 : @TJL inst0 K te ml) (h2 : ∀ i : Pix K ns, @TJSN i.decI i.decF c K (tr i) ms)
    {a : Addr} {H : Hp} {Q : VK} (hS : SqL K H a (ns.map V.int) ∧ NoTp H) (q : ∀ H', Q (.bl true) H')
    (p1 : (ml (.imm (.list (ns.map PyData.int)) :: List.replicate (k + 1) .any)).run fun ds => ∃ is, ds = .list (ns.map PyData.int) :: is.map PyData.int ∧ DInv 0 is)
    (p2 : (ms ([.imm (.list (ns.map PyData.int)), .opq 0] ++ List.replicate k .any)).run fun r => r.1 = .rt (.im (.bool true))) :
    (tSeq (tAsg te (gName 1)) fun D σ H => ∃ i, tr i D σ H) { nx := fun _ H' => Q .non H', rt := Q } (start N [.ref a]) H := by
  obtain ⟨G, eG, nG, sG, cG⟩ := only_of hL hS.1
  have dG : Dp K G (.ref a) (.list (ns.map PyData.int)) := .lst sG (dp_nums (K := K) ns)
  letI := inst0
  have f0 : Fra (bas G H [] []) G H := ⟨eG, Ex.refl _, fun _ _ e _ => e, fun _ e => e, fun _ _ e => e, fun q hq => (by cases hq), fun q hq => (by cases hq), fun q hq => (by cases hq), Nat.zero_le _, fun _ _ h => (by cases h), cG, fun b xs e => (hS.2 b xs e).elim⟩
  have eN : N.length - 1 = k + 1 := by omega
  have est : start N [.ref a] = some (.ref a) :: List.replicate (k + 1) none := by unfold L2.start; simp [eN]
  have sgr : ∀ {o : Option V} (i : Nat), sg (o :: List.replicate (k + 1) none) (i + 1) = none := fun i => by show (List.replicate (k + 1) none).getD i none = none; exact getD_rep
  have ok0 : ROk K (bas G H [] []) G (.imm (.list (ns.map PyData.int)) :: List.replicate (k + 1) .any) (start N [.ref a]) H := by
    refine ⟨f0, by rw [est]; simp, fun i => ?_⟩
    rw [est]
    match i with
    | 0 => exact ⟨_, rfl, dG⟩
    | i + 1 =>
      have e4 : gt (.imm (.list (ns.map PyData.int)) :: List.replicate (k + 1) .any) (i + 1) = .any := by show (List.replicate (k + 1) Sl.any).getD i .any = .any; exact getD_rep
      rw [e4]; exact trivial
  refine h1 _ G _ _ H ok0 _ ((ml _).mono (fun ds k1 p vs G1 H1 e1 f1 hp0 hg1 hp1 dv => ?_) p1)
  obtain ⟨is, rfl, hi⟩ := k1
  cases dv with
  | cons d0 dr =>
    obtain ⟨a1, xs, rfl, s1, s2⟩ := dp_lst d0
    have nums : ∀ {vs : List V} {is : List Int}, DpAll K G1 vs (is.map PyData.int) → vs = is.map V.int := by
      intro vs is
      induction is generalizing vs with
      | nil => intro h; cases h; rfl
      | cons i r ih => intro h; cases h with | cons a b => cases a; rw [ih b]; rfl
    have ex := nums s2
    have er := nums dr
    subst ex
    subst er
    have ex1 : Ex G1 H1 := f1.ex
    have c1 : NFz G1 := f1.cl
    have t1 := f1.tu
    let i : Pix K ns := ⟨(a1, G1), s1⟩
    refine ⟨i, ?_⟩
    letI := i.decI
    letI := i.decF
    let FF : Fam := ⟨p, [p], fun n H => ∃ zs, H p = some (.lst (.ref a1 :: zs.map V.int)) ∧ DInv n zs, fun n H H' h => by rw [h p (by simp)]; exact id, fun n H ⟨_, h, _⟩ b hb => by
      have : b = p := by simpa using hb
      subst this
      rw [h]; simp, fun n c H ⟨zs, h1, h2⟩ => ⟨zs, h1, h2.up c⟩⟩
    have hFF : DeckF a1 FF := ⟨rfl, fun _ _ => Iff.rfl⟩
    let qq : Opq := FF.op 0
    have fB : Fra (bas G1 H1 [p] [qq]) G1 H1 := by
      refine ⟨ex1, Ex.refl _, fun _ _ e _ => e, fun _ e => e, fun _ _ e => e, fun q hq => ?_, fun q hq => ?_, fun q hq => ?_, Nat.le_refl _, Ex.refl _, c1, t1⟩
      · have : q = qq := by simpa using hq
        subst this
        exact ⟨⟨is, hp1, hi⟩, fun b hb => by
          have : b = p := by simpa [qq, Fam.op, FF] using hb
          subst this
          exact ⟨hg1, by simp⟩⟩
      · have : q = qq := by simpa using hq
        subst this
        intro b hb
        have : b = p := by simpa [qq, Fam.op, FF] using hb
        subst this
        show H1 _ ≠ none
        rw [hp1]; exact fun z => by cases z
      · have : q = qq := by simpa using hq
        subst this
        exact ⟨FF, 0, hFF, rfl⟩
    have okB : Ok K (bas G1 H1 [p] [qq]) G1 (List.replicate (2 + k) none) ([.imm (.list (ns.map PyData.int)), .opq 0] ++ List.replicate k .any) ((start N [.ref a]).set 1 (some (.ref p))) H1 := by
      rw [est]
      have es : (some (V.ref a) :: List.replicate (k + 1) (none : Option V)).set 1 (some (.ref p)) = some (.ref a) :: some (.ref p) :: List.replicate k none := by simp [List.replicate_succ]
      rw [es]
      refine ⟨fB, by simp, by simp; omega, fun j => ?_, fun i j b hi _ => ?_⟩
      · have e3 : fg (List.replicate (2 + k) none) j = none := getD_rep
        rw [e3]
        match j with
        | 0 => exact ⟨rfl, _, rfl, dp_ex e1 dG⟩
        | 1 => exact ⟨rfl, qq, rfl, rfl⟩
        | j + 2 =>
          have e4 : gt ([.imm (.list (ns.map PyData.int)), .opq 0] ++ List.replicate k .any) (j + 2) = .any := by show (List.replicate k Sl.any).getD j .any = .any; exact getD_rep
          rw [e4]; exact rfl
      · have e3 : fg (List.replicate (2 + k) none) i = none := getD_rep
        rw [e3] at hi; cases hi
    have hFP : FamP FF := ⟨fun n => ⟨FF, n, hFF, rfl⟩, hFF⟩
    refine h2 i FF hFP (bas G1 H1 [p] []) G1 _ _ _ H1 0 (by omega) okB rfl _ ((ms _).mono (fun r k2 G' fps' σ' H' e ok' => ?_) p2)
    rw [k2]
    intro v dv
    cases dv
    exact q H'
end Z
namespace Z
variable [PoC] [FaC]
open PySem PySem.Spec PyProof.Rows L2
open Evl (Ex fresh_back)
/-! ### slices at drawn places, new lists by operators -/
def TJON (c : Nat) (K : PySem.W.Frag) (to : TO) (m : Env → W (Option Int)) : Prop :=
  ∀ (F : Fam), FamP F → ∀ (B : Ba) (G : Hp) (env : Env) (σ : L2.St) (H : Hp) (n : Nat), n + c ≤ nMax → ROk K (B.wth F n) G env σ H → ∀ Q : Option Int → Hp → Prop, ((m env).run fun b => ∀ G' H', Ex G G' → Fra (B.wth F (n + c)) G' H' → Q b H') → to σ H Q
section
variable {K : PySem.W.Frag} {te ta tb : TE} {m ma mb : Env → W PyData} {c d c1 c2 c3 : Nat}
theorem tjon_of {to : TO} {mo : Env → W (Option Int)} (h : TJO K to mo) : TJON 0 K to mo := fun F hF B G env σ H n hn ok Q q => h (B.wth F n) G env σ H ok Q q
theorem tjon_some (h : TJN c K te m) : TJON c K (tPart te) (mPart m) := fun F hF B G env σ H n hn ok Q q =>
  h F hF B G env σ H n hn ok _ ((m env).mono (fun d q1 v G1 H1 e1 f1 d1 => by
    cases d with
    | int i => cases d1; exact ⟨i, rfl, q1 G1 H1 e1 f1⟩
    | _ => exact q1.elim) q)
theorem tjn_sl {tl th : TO} {ml mh : Env → W (Option Int)} (h : TJN c1 K te m) (hl : TJON c2 K tl ml) (hh : TJON c3 K th mh) : TJN (c1 + (c2 + c3)) K (tSl (rSlZ K) te tl th) (mSl m ml mh) := fun F hF B G env σ H n hn ok Q q =>
  h F hF B G env σ H n (by omega) ok _ ((m env).mono (fun a q1 v G1 H1 e1 f1 d1 => hl F hF B G1 env σ H1 (n + c1) (by omega) (ok.wgo e1 f1) _ ((ml env).mono (fun l q2 G2 H2 e2 f2 => hh F hF B G2 env σ H2 (n + c1 + c2) (by omega) ((ok.wgo e1 f1).wgo e2 f2) _ ((mh env).mono (fun u q3 G3 H3 e3 f3' => by
    have f3 : Fra (B.wth F (n + (c1 + (c2 + c3)))) G3 H3 := f3'.to hF (by omega)
    have e := e1.trans (e2.trans e3)
    have d3 := dp_ex (e2.trans e3) d1
    cases a with
    | tuple ds =>
      obtain ⟨p, vs, rfl, h1, h2⟩ := dp_tup d3
      refine .inl ⟨p, vs, rfl, ex_t f3.ex h1, fun c => ?_, fun c t ht => ?_⟩
      · rw [dpa_len h2] at c
        exact q3 _ G3 H3 e f3 (.tup h1 (by rw [cut_whole c]; exact h2))
      · obtain ⟨f4, e4, g4⟩ := f3.alloc (o := .tup (cutV vs l u)) ht
        exact q3 _ _ _ (e.trans e4) f4 (.tup (Or.inl (Or.inl upd_same)) (dpa_ex e4 (dpa_cut h2 l u)))
    | list ds =>
      obtain ⟨p, vs, rfl, h1, h2⟩ := dp_lst d3
      refine .inr (.inl ⟨p, vs, rfl, ex_l f3.ex h1, fun t ht => ?_⟩)
      obtain ⟨f4, e4, g4⟩ := f3.alloc (o := .lst (cutV vs l u)) ht
      exact q3 _ _ _ (e.trans e4) f4 (.lst (Or.inl (Or.inl upd_same)) (dpa_ex e4 (dpa_cut h2 l u)))
    | str z =>
      cases d3
      exact .inr (.inr ⟨z, rfl, q3.1, q3.2 _ G3 H3 e f3 (.str _)⟩)
    | _ => exact q3.elim) q2)) q1)) q)
theorem tjln_op {r : R2} {f : PyData → PyData → W (List PyData)} (hr : OJL K r f) (ha : TJN c1 K ta ma) (hb : TJN c2 K tb mb) : TJLN (c1 + c2) K (tOp r ta tb) (m2L f ma mb) := fun F hF B G env σ H n hn ok Q q =>
  ha F hF B G env σ H n (by omega) ok _ ((ma env).mono (fun a q1 v G1 H1 e1 f1 d1 => hb F hF B G1 env σ H1 (n + c1) (by omega) (ok.wgo e1 f1) _ ((mb env).mono (fun b q2 u G2 H2 e2 f2' d2 => by
    have f2 := f2'.asc
    exact hr G2 H2 v u a b f2.ex (dp_ex e2 d1) d2 Q ((f a b).mono (fun ds q3 p ws hp d3 => q3 p ws G2 _ (e1.trans e2) (f2.lay hp) (f2.free hp) (fresh_back f2.ex hp) upd_same d3) q2)) q1)) q)
theorem tjn_andV (h1 : TJN c1 K ta ma) (h2 : TJN c2 K tb mb) : TJN (c1 + c2) K (tAndV ta tb) (mAndV ma mb) := fun F hF B G env σ H n hn ok Q q =>
  h1 F hF B G env σ H n (by omega) ok _ ((ma env).mono (fun d q1 v G1 H1 e1 f1 d1 => by
    cases d with
    | bool b =>
      cases d1
      refine ⟨b, rfl, ?_⟩
      cases b with
      | true => exact h2 F hF B G1 env σ H1 (n + c1) (by omega) (ok.wgo e1 f1) Q ((mb env).mono (fun c q2 w G2 H2 e2 f2 => q2 w G2 H2 (e1.trans e2) f2.asc) q1)
      | false => exact q1 _ G1 H1 e1 (f1.to hF (by omega)) (.bl _)
    | _ => exact q1.elim) q)
end
end Z
namespace Z
variable [PoC] [FaC]
open PySem PySem.Spec PyProof.Rows L2
open Evl (Ex fresh_back)
/-! ### loans, calls of defs that do not draw, truth, items set: with draws in the parts -/
section
variable {K : PySem.W.Frag} {te ta tb : TE} {m ma mb : Env → W PyData} {c d c1 c2 c3 : Nat}
theorem tjn_lend (h : TJN c K te m) : TJN c K te (mLend m) := fun F hF B G env σ H n hn ok Q q =>
  h F hF (bas (G1 (B.wth F n) G env σ) H B.mu []) _ _ σ H n hn (lend_ok ok) Q ((m (env.map lendS)).mono (fun d q1 v G' H' e f dv => by
    obtain ⟨eG, fG, ht, hz, hn⟩ := lend_back (ok.wgo (c := c) (Ex.refl _) (ok.fra.wup hF)) e f
    exact q1.2 v _ H' eG fG (dp_hide ht hz q1.1 dv)) q)
theorem tjln_lend {ml : Env → W (List PyData)} (h : TJLN c K te ml) : TJLN c K te (mLendL ml) := fun F hF B G env σ H n hn ok Q q =>
  h F hF (bas (G1 (B.wth F n) G env σ) H B.mu []) _ _ σ H n hn (lend_ok ok) Q ((ml (env.map lendS)).mono (fun d q1 p vs G' H' e f h0 hg hp dv => by
    obtain ⟨eG, fG, ht, hz, hn⟩ := lend_back (ok.wgo (c := c) (Ex.refl _) (ok.fra.wup hF)) e f
    exact q1.2 p vs _ H' eG fG (ok.fra.free h0) (hn p hg) hp (dpa_hide ht hz q1.1 dv)) q)
theorem tjtn_lend {tt : TT} {mt : Env → W Bool} (h : TJTN c K tt mt) : TJTN c K tt (mLendT mt) := fun F hF B G env σ H n hn ok Q q =>
  h F hF (bas (G1 (B.wth F n) G env σ) H B.mu []) _ _ σ H n hn (lend_ok ok) Q ((mt (env.map lendS)).mono (fun d q1 G' H' e f => by
    obtain ⟨eG, fG, ht, hz, hn⟩ := lend_back (ok.wgo (c := c) (Ex.refl _) (ok.fra.wup hF)) e f
    exact q1 _ H' eG fG) q)
theorem tjn_callF {n : Nat} {M : List Sl → W Rv} {E : XK} {tl : TA} {mr : Env → W (List Sl)} (ha : TJAN c K tl mr) : TJN c K (tCall (spF K n M) [] E tl) (mCall n M mr) := fun F hF B G env σ H k hn ok Q q =>
  ha F hF B G env σ H k hn ok _ ((mr env).mono (fun args q1 vs G1 H1 e1 f1 d1 => by
    refine ⟨G1, [F.op (k + c)], args, f1.at _ fun p hp a h => mem_fpsOf.mpr ⟨p, hp, h⟩, q1.1, by simpa using d1, (M args).mono (fun r q2 v G2 H2 e2 f2 rv => ?_) q1.2⟩
    have f3 := f1.back (fpsOf_mu f1) f2
    cases r with
    | im d => exact q2 v G2 H2 (e1.trans e2) f3 rv
    | fr ds =>
      obtain ⟨p, ws, rfl, h0, hg, hp, hd⟩ := rv
      obtain ⟨f4, e4⟩ := frz_fra f3 (f1.free h0) hp hg
      exact q2 _ _ H2 ((e1.trans e2).trans e4) f4 (.lst (Or.inl (Or.inl upd_same)) (dpa_ex e4 hd))
    | rk kvs => exact q2.elim
    | rt kvs => exact q2.elim
    | ad a =>
      cases a with
      | exc n => exact q2.elim
      | tz ds =>
        obtain ⟨p, us, rfl, h3, h4, _⟩ := rv
        exact q2 _ G2 H2 (e1.trans e2) f3 (.tup h3 h4)) q)
theorem tjln_callF {n : Nat} {M : List Sl → W Rv} {E : XK} {tl : TA} {mr : Env → W (List Sl)} (ha : TJAN c K tl mr) : TJLN c K (tCall (spF K n M) [] E tl) (mCallL n M mr) := fun F hF B G env σ H k hn ok Q q =>
  ha F hF B G env σ H k hn ok _ ((mr env).mono (fun args q1 vs G1 H1 e1 f1 d1 => by
    refine ⟨G1, [F.op (k + c)], args, f1.at _ fun p hp a h => mem_fpsOf.mpr ⟨p, hp, h⟩, q1.1, by simpa using d1, (M args).mono (fun r q2 v G2 H2 e2 f2 rv => ?_) q1.2⟩
    have f3 := f1.back (fpsOf_mu f1) f2
    cases r with
    | im d => exact q2.elim
    | fr ds =>
      obtain ⟨p, ws, rfl, h0, hg, hp, hd⟩ := rv
      exact q2 p ws G2 H2 (e1.trans e2) f3 (f1.free h0) hg hp hd
    | rk kvs => exact q2.elim
    | rt kvs => exact q2.elim
    | ad a => exact q2.elim) q)
theorem tjtn_truth (h : TJN c K ta m) : TJTN c K (fun σ H Q => ta σ H fun x H' => ∃ k, TruV K x H' k ∧ Q k H') (mTruth m) := fun F hF B G env σ H n hn ok Q q =>
  h F hF B G env σ H n hn ok _ ((m env).mono (fun d q1 v G1 H1 e1 f1 d1 => by
    cases d with
    | none => cases d1; exact ⟨_, rfl, q1 G1 H1 e1 f1⟩
    | bool b => cases d1; exact ⟨_, rfl, q1 G1 H1 e1 f1⟩
    | int i => cases d1; exact ⟨_, rfl, q1 G1 H1 e1 f1⟩
    | str z => cases d1; exact ⟨_, ⟨q1.1, rfl⟩, q1.2 G1 H1 e1 f1⟩
    | list ds =>
      obtain ⟨p, vs, rfl, h1, h2⟩ := dp_lst d1
      exact ⟨_, .inl ⟨vs, ex_l f1.ex h1, rfl⟩, by rw [dpa_empty h2]; exact q1 G1 H1 e1 f1⟩
    | tuple ds =>
      obtain ⟨p, vs, rfl, h1, h2⟩ := dp_tup d1
      exact ⟨_, .inr (.inl ⟨vs, ex_t f1.ex h1, rfl⟩), by rw [dpa_empty h2]; exact q1 G1 H1 e1 f1⟩
    | dict _ => exact q1.elim) q)
theorem tjsn_setI {i : Nat} {ti : TE} {mi : Env → W PyData} (h : TJN c1 K te m) (hi : TJN c2 K ti mi) : TJSN (c1 + c2) K (tAsg te (gSub (tVar i) ti rSetL)) (sSetI i mi m) := fun F hF B G fps env σ H n hn ok hm D q => by
  obtain ⟨ds, hg, q⟩ := asL_run q
  refine ok.evN hF (by omega) h ((m env).mono (fun d k v G1 H1 e1 ok1 dv => ?_) q)
  obtain ⟨p, vs, h1, h2, h3, h4, h5⟩ := ok1.lstAt hg
  refine ⟨_, sg_some h2, ok1.evN hF (by omega) hi ((mi env).mono (fun d2 k2 v2 G2 H2 e2 ok2' dv2 => ?_) k)⟩
  have ok2 := ok2'.asc
  obtain ⟨p', vs', h1', h2', h3', h4', h5'⟩ := ok2.lstAt hg
  rw [h1] at h1'
  cases h1'
  cases d2 with
  | int x =>
    cases dv2
    cases c : ixN ds.length x with
    | none => simp only [c] at k2; exact k2.elim
    | some j =>
      simp only [c] at k2
      exact ⟨p, vs', x, j, rfl, rfl, h4', by rw [dpa_len h5']; exact c, k2 G2 _ _ _ (e1.trans e2) (ok2.wrB h1 (s := .lst (ds.set j d)) ⟨p, _, rfl, rfl, h3', upd_same, dpa_set (dp_ex e2 dv) _ h5'⟩)⟩
  | _ => exact k2.elim
theorem tjsn_frz {is : List Nat} {tu : TS} {mu : Ms} (h : TJSN c K tu mu) : TJSN c K tu (sFrz is mu) := fun F hF B G fps env σ H n hn ok hm D q => by
  obtain ⟨G1, fps1, e1, ok1⟩ := ok.frz hm is
  exact h F hF B G1 fps1 _ σ H n hn ok1 hm D (W.mono _ (fun r k G' fps' σ' H' e ok' => k G' fps' σ' H' (e1.trans e) ok') q)
theorem tjsn_is {tu : TS} {mu : Ms} (h : TJSN c K tu mu) (e : c = d) : TJSN d K tu mu := e ▸ h
theorem spFN_len {n : Nat} {M : List Sl → W Rv} {vs : List V} {H : Hp} {Q : VK} {E : XK} (h : spFN c K n M vs H Q E) : vs.length = n := by
  obtain ⟨F, k, G, args, _, _, _, h1, h2, _⟩ := h
  rw [paired_len h2, h1]
theorem fn_bodyC {N : List Str} {n k : Nat} {tu : TS} {ms : Ms} (h : TJSN c K tu ms) (e : c = d) (hN : N.length = n + k) {vs : List V} {H : Hp} {Q : VK} {E : XK} (hs : spFN d K n (mFn k ms) vs H Q E) : tu { nx := fun _ H' => Q .non H', rt := Q } (start N vs) H := by
  subst e
  exact fn_bodyN h hN hs
end
omit [FaC] in
theorem spF_fail {K : PySem.W.Frag} {n : Nat} {vs : List V} {H : Hp} {Q : VK} {E : XK} (h : spF K n (fun _ => W.fail) vs H Q E) : False := by
  obtain ⟨G, ops, args, _, _, _, h⟩ := h
  exact h
@[simp] theorem r_sForN (kl : List Nat) (ml : Env → W (List PyData)) (mg : PyData → Env → W Env) (sa : Ms) (e : Env) (Q : Fl × Env → Prop) : (sForN kl ml mg sa e).run Q = (ml e).run fun ds => ds.length ≤ turns ∧ (loopM kl mg sa ds (killE kl e)).run Q := rfl
end Z
namespace L2
open PySem PySem.Spec PyProof.Rows HT
/-! ### t[::-1] of a tuple or a list -/
section
variable {prog : Program} {w : World} {A : Around} {E : Value → Shared → Prop} {s : Shared}
theorem adjust_rev (n : Nat) : Builtin.Slice.sliceAdjust none none (-1) (n : Int) = ((n : Int) - 1, -1) := by
  unfold Builtin.Slice.sliceAdjust
  simp
theorem places_rev (n : Nat) : Builtin.Slice.slicePlaces ((n : Int) - 1) (-1) (-1) = n := by
  unfold Builtin.Slice.slicePlaces
  simp
  omega
theorem sliceApplied_rev {sl : Addr} {vl vu vs : Value} {n : Nat} {Q : Int × Int × Nat → Shared → Prop} (hs : s.heap.IsSliceOf sl vl vu vs) (pl : IsPart vl none) (pu : IsPart vu none) (ps : IsPart vs (some (-1)))
    (h : Q ((n : Int) - 1, -1, n) s) : wpAny (model prog w) A (Builtin.Slice.sliceApplied (.ref sl) (pure (n : Int))) Q E s := by
  obtain ⟨os, hos, hcs, hds⟩ := id hs
  unfold Builtin.Slice.sliceApplied Builtin.Slice.sliceFields
  refine wpAny_bind (wpAny_bind (wpAny_field hos hds (x := vl) rfl (wpAny_bind (wpAny_field hos hds (x := vu) rfl (wpAny_bind (wpAny_field hos hds (x := vs) rfl (wpAny_pure ?_)))))))
  refine wpAny_bind (slicePart_ ps ?_)
  show wpAny _ _ (if ((-1 : Int) == 0) = true then _ else _) _ _ s
  rw [if_neg (by decide)]
  refine wpAny_bind (slicePart_ pl (wpAny_bind (slicePart_ pu (wpAny_bind (wpAny_pure ?_)))))
  show wpAny _ _ (match Builtin.Slice.sliceAdjust none none (-1) (n : Int) with | (lo, hi) => pure (lo, (-1 : Int), Builtin.Slice.slicePlaces lo hi (-1))) _ _ s
  rw [adjust_rev n]
  show wpAny _ _ (pure ((n : Int) - 1, (-1 : Int), Builtin.Slice.slicePlaces ((n : Int) - 1) (-1) (-1))) _ _ s
  rw [places_rev]
  exact wpAny_pure h
theorem fm_congr {α β : Type} {f g : α → Option β} : ∀ (l : List α), (∀ m ∈ l, f m = g m) → l.filterMap f = l.filterMap g
  | [], _ => rfl
  | x :: r, h => by rw [List.filterMap_cons, List.filterMap_cons, h x (List.mem_cons_self ..), fm_congr r fun m hm => h m (List.mem_cons_of_mem _ hm)]
theorem pick_rev (xs : Array Value) : ((List.range xs.size).filterMap fun (m : Nat) => xs[((xs.size : Int) - 1 + (m : Int) * (-1)).toNat]?).toArray = xs.toList.reverse.toArray := by
  have e : ∀ m ∈ List.range xs.size, xs[((xs.size : Int) - 1 + (m : Int) * (-1)).toNat]? = xs[xs.size - 1 - m]? := by
    intro m hm
    have := List.mem_range.mp hm
    have : ((xs.size : Int) - 1 + (m : Int) * (-1)).toNat = xs.size - 1 - m := by omega
    rw [this]
  rw [fm_congr _ e]
  have h := PySem.W.krv_all xs
  have h2 := PySem.W.krv_range xs.size
  congr 1
  rw [← h, ← List.filterMap_reverse, ← h2, List.filterMap_map]
  rfl
theorem getItem_tuple_rev {t sl : Addr} {items : Array Value} {vl vu vs : Value} {Q : Value → Shared → Prop} (ht : IsTup s.heap t items) (hs : s.heap.IsSliceOf sl vl vu vs) (pl : IsPart vl none) (pu : IsPart vu none) (ps : IsPart vs (some (-1)))
    (h : Q (.ref s.heap.objs.size) { s with heap := s.heap.push { cls := .type "tuple", data := .seq items.toList.reverse.toArray } })
    (hsz : items.size ≤ sizeLine) : wpAny (model prog w) A (getItem (.ref t) (.ref sl)) Q E s := by
  have htake : sizeOk (.seq items.toList.reverse.toArray) := by
    show items.toList.reverse.toArray.size ≤ sizeLine
    rw [List.size_toArray, List.length_reverse, Array.length_toList]
    exact hsz
  obtain ⟨os, hos, hcs, hds⟩ := id hs
  have hTs : s.TypeIs (.ref sl) "slice" := ⟨os, hos, hcs⟩
  unfold getItem
  try with_reducible refine wpAny_holding ?_
  first | refine wpAny_bind (wpAny_pure ?_) | skip
  refine wpAny_bind (wpAny_sequenceKey ht.typeIs (by decide) ?_)
  refine wpAny_bind (wpAny_callSpecial?_slot (name := Str.ofString "__getitem__") ht.typeIs PyProof.Rows.slot_tuple_getitem
    (wpAny_call_entry PyProof.Rows.slot_tuple_getitem ht.typeIs entry_tuple_getitem ?_ (args_tuple_getitem _ _)))
  show wpAny _ _ (Builtin.Tuple.tupleItemsOf (.ref t) >>= _) _ _ s
  refine wpAny_bind (tupleItemsOf_ ht ?_)
  refine wpAny_bind (wpAny_typeOf hTs ?_)
  rw [if_pos (by decide)]
  refine wpAny_bind (sliceApplied_rev hs pl pu ps ?_)
  have hno : ¬ (((items.size : Int) - 1 == 0 && (-1 : Int) == 1 && items.size == items.size) = true) := by
    intro q
    rw [Bool.and_eq_true, Bool.and_eq_true] at q
    exact absurd q.1.2 (by decide)
  show wpAny _ _ (if ((items.size : Int) - 1 == 0 && (-1 : Int) == 1 && items.size == items.size) = true then _ else _) _ _ s
  rw [if_neg hno, pick_rev]
  first
    | exact wpAny_bind (m := Builtin.Tuple.tupleExact _) (wpAny_newObj_type (wpAny_pure ⟨_, rfl, wpAny_pure h⟩) htake)
    | exact wpAny_bind (m := Builtin.Tuple.tupleExact _) (wpAny_newObj_type (wpAny_bind (wpAny_pure (wpAny_pure ⟨_, rfl, wpAny_pure h⟩))) htake)
    | exact wpAny_bind (wpAny_bind (m := Builtin.Tuple.tupleExact _) (wpAny_newObj_type (wpAny_pure (wpAny_pure ⟨_, rfl, wpAny_pure h⟩)) htake))
    | exact wpAny_bind (wpAny_bind (m := Builtin.Tuple.tupleExact _) (wpAny_newObj_type (wpAny_pure ⟨_, rfl, wpAny_pure h⟩) htake))
end
section
variable {X : Cx}
def tRevZ (K : PySem.W.Frag) (te : TE) : TE := fun σ H Q => te σ H fun x H1 => (∃ a xs, x = .ref a ∧ SqL K H1 a xs ∧ ∀ p, H1 p = none → Q (.ref p) (upd H1 p (.lst xs.reverse))) ∨ (∃ a xs, x = .ref a ∧ SqT K H1 a xs ∧ ∀ p, H1 p = none → Q (.ref p) (upd H1 p (.tup xs.reverse)))
theorem pe_revZ {e : Expr} {te : TE} {k : Nat} {p1 p2 p3 pos : Pos} (he : PE X e te) : PE X (.Subscript e (.Slice none none (some (.UnaryOp .USub (.Constant (.int 1) k p1) p2)) p3) pos) (tRevZ X.K te) := by
  refine ⟨fun pins s σ H Q I h => ?_⟩
  refine Subscript_ (thn (he.run pins s σ H _ I h) fun v s1 ⟨x, H1, I1, r1, q1⟩ => ?_)
  have hst : PO X (some (.UnaryOp .USub (.Constant (.int 1) k p1) p2)) (tPart (tUn (rU fun i => .int (-i)) (tC (.int 1)))) := po_some (pe_un un_neg pe_int)
  refine wpAny_Slice (thn (po_none.run pins s1 σ H1 (fun o H2 => o = none ∧ H2 = H1) I1 ⟨rfl, rfl⟩) fun vl s2 ⟨l, H2, I2, pl, el, e2⟩ => ?_)
  subst el e2
  refine thn (po_none.run pins s2 σ H2 (fun o H3 => o = none ∧ H3 = H2) I2 ⟨rfl, rfl⟩) fun vu s3 ⟨u, H3, I3, pu, eu, e3⟩ => ?_
  subst eu e3
  refine thn (hst.run pins s3 σ H3 (fun o H4 => o = some (-1) ∧ H4 = H3) I3 ⟨1, rfl, -1, rfl, rfl, rfl⟩) fun vs s4 ⟨o, H4, I4, ps, eo, e4⟩ => ?_
  subst eo e4
  have I5 : Inv X pins σ H4 { s4 with heap := s4.heap.push { cls := .type "slice", data := .fields #[vl, vu, vs] } } := I4.kept (t' := s4.toks) fun b ob q => Heap.get?_push_of_some _ q
  rcases q1 with ⟨a, xs, ex, hx, q⟩ | ⟨a, xs, ex, hx, q⟩
  · subst ex
    cases r1
    obtain ⟨its, r, ht, hz⟩ := I5.list hx
    have hlen := r.length
    show wpAny (model X.prog X.w) X.A (subscriptTail e (.Slice none none (some (.UnaryOp .USub (.Constant (.int 1) k p1) p2)) p3) (.ref a) (.ref s4.heap.objs.size)) (EP X pins σ Q) X.xe { s4 with heap := s4.heap.push { cls := .type "slice", data := .fields #[vl, vu, vs] } }
    refine tail_any (ops := [.ref a, .ref s4.heap.objs.size]) ht.isList.typeIs (PySem.slot_list_getitem.lookup) ?_ (by with_unfolding_all rfl)
    refine wpAny_getItem_list_slice ht.isList (Heap.IsSliceOf.new _ vl vu vs) pl pu ps (by decide) ?_ (by rw [List.size_toArray]; omega)
    rw [PySem.W.krv_pick]
    refine ⟨.ref _, _, I5.laid (t' := s4.toks) (o := .lst xs.reverse) (fun b ob q => Heap.get?_push_of_some _ q) (Nat.le_refl _) ?_, rfl, q _ (I5.hok.fresh (Nat.le_refl _))⟩
    exact ⟨by rw [List.length_reverse]; exact hz, _, 0, r.reverse, Heap.get?_push_size _ rfl⟩
  · subst ex
    cases r1
    obtain ⟨its, r, ht, hz⟩ := I5.tuple hx
    have hlen := r.length
    show wpAny (model X.prog X.w) X.A (subscriptTail e (.Slice none none (some (.UnaryOp .USub (.Constant (.int 1) k p1) p2)) p3) (.ref a) (.ref s4.heap.objs.size)) (EP X pins σ Q) X.xe { s4 with heap := s4.heap.push { cls := .type "slice", data := .fields #[vl, vu, vs] } }
    refine tail_any (ops := [.ref a, .ref s4.heap.objs.size]) ht.typeIs (PyProof.Rows.slot_tuple_getitem.lookup) ?_ (by with_unfolding_all rfl)
    refine getItem_tuple_rev ht (Heap.IsSliceOf.new _ vl vu vs) pl pu ps ?_ (by rw [List.size_toArray]; omega)
    refine ⟨.ref _, _, I5.laid (t' := s4.toks) (o := .tup xs.reverse) (fun b ob q => Heap.get?_push_of_some _ q) (Nat.le_refl _) ?_, rfl, q _ (I5.hok.fresh (Nat.le_refl _))⟩
    exact ⟨by rw [List.length_reverse]; exact hz, _, r.reverse, IsTup.new _ _⟩
end
end L2
namespace Z
variable [PoC]
open PySem PySem.Spec PyProof.Rows L2
open Evl (Ex fresh_back)
def fRev : PyData → W PyData
  | .tuple ds => pure (.tuple ds.reverse)
  | .list ds => pure (.list ds.reverse)
  | _ => W.fail
def mRev (m : Env → W PyData) : Env → W PyData := fun env => do fRev (← m env)
@[simp] theorem r_mRev {m : Env → W PyData} {e : Env} {Q : PyData → Prop} : (mRev m e).run Q = (m e).run fun d => (fRev d).run Q := rfl
@[simp] theorem fRev_t (ds : List PyData) : fRev (.tuple ds) = pure (.tuple ds.reverse) := rfl
@[simp] theorem fRev_l (ds : List PyData) : fRev (.list ds) = pure (.list ds.reverse) := rfl
theorem tj_rev {K : PySem.W.Frag} {te : TE} {m : Env → W PyData} (h : TJ K te m) : TJ K (tRevZ K te) (mRev m) := fun B G env σ H ok Q q =>
  h B G env σ H ok _ ((m env).mono (fun a q1 v G3 H3 e f3 d3 => by
    cases a with
    | tuple ds =>
      obtain ⟨p, vs, rfl, h1, h2⟩ := dp_tup d3
      refine .inr ⟨p, vs, rfl, ex_t f3.ex h1, fun t ht => ?_⟩
      obtain ⟨f4, e4, g4⟩ := f3.alloc (o := .tup vs.reverse) ht
      exact q1 _ _ _ (e.trans e4) f4 (.tup (Or.inl (Or.inl upd_same)) (dpa_ex e4 (dpa_rev h2)))
    | list ds =>
      obtain ⟨p, vs, rfl, h1, h2⟩ := dp_lst d3
      refine .inl ⟨p, vs, rfl, ex_l f3.ex h1, fun t ht => ?_⟩
      obtain ⟨f4, e4, g4⟩ := f3.alloc (o := .lst vs.reverse) ht
      exact q1 _ _ _ (e.trans e4) f4 (.lst (Or.inl (Or.inl upd_same)) (dpa_ex e4 (dpa_rev h2)))
    | _ => exact q1.elim) q)
end Z
namespace Z
variable [PoC]
open PySem PySem.Spec PyProof.Rows L2
open Evl (Ex fresh_back)
/-! ### zip of two lists, of two tuples -/
def zipD (a b : List PyData) : List PyData := List.zipWith (fun x y => .tuple [x, y]) a b
def zipOf : List PyData → W (List PyData)
  | [.list a, .list b] => pure (zipD a b)
  | [.tuple a, .tuple b] => pure (zipD a b)
  | _ => W.fail
def mZip (md : Env → W (List PyData)) : Env → W (List PyData) := fun env => do zipOf (← md env)
@[simp] theorem r_mZip {mr : Env → W (List PyData)} {e : Env} {QL : List PyData → Prop} : (mZip mr e).run QL = (mr e).run fun r => (zipOf r).run QL := rfl
@[simp] theorem zipOf_l (a b : List PyData) : zipOf [.list a, .list b] = pure (zipD a b) := rfl
@[simp] theorem zipOf_t (a b : List PyData) : zipOf [.tuple a, .tuple b] = pure (zipD a b) := rfl
theorem zipD_len (a b : List PyData) : (zipD a b).length = min a.length b.length := List.length_zipWith
theorem zipD_get {a b : List PyData} {i : Nat} {x y : PyData} (hx : a[i]? = some x) (hy : b[i]? = some y) : (zipD a b)[i]? = some (.tuple [x, y]) := by
  unfold zipD
  rw [List.getElem?_zipWith, hx, hy]
theorem zipD_map {α β : Type} (f : α → PyData) (g : β → PyData) : ∀ (a : List α) (b : List β), zipD (a.map f) (b.map g) = (a.zip b).map fun p => .tuple [f p.1, g p.2]
  | [], _ => rfl
  | _ :: _, [] => rfl
  | x :: r, y :: s => by
    have := zipD_map f g r s
    unfold zipD at this ⊢
    simp [this]
theorem yld_zip {K : PySem.W.Frag} {G H : Hp} {p : Addr} {x y : V} {dx dy : PyData} {ds : List PyData} {i : Nat} (e1 : Ex G H) (h2 : H p = none) (hd : ds[i]? = some (.tuple [dx, dy])) (hx : Dp K G x dx) (hy : Dp K G y dy) :
    ∃ G' d, Stp G H G' (upd H p (.tup [x, y])) ∧ ds[i]? = some d ∧ Dp K G' (.ref p) d := by
  have ee : Ex G (upd G p (.tup [x, y])) := Ex.new (fresh_back e1 h2)
  exact ⟨_, _, .new h2, hd, .tup (Or.inl (Or.inl upd_same)) (.cons (dp_ex ee hx) (.cons (dp_ex ee hy) .nil))⟩
theorem tji_zip {K : PySem.W.Frag} {ta : TA} {md : Env → W (List PyData)} (h : TJD K ta md) : TJI K (RZ.iZipA K ta) (mZip md) := fun B G env σ H ok R q =>
  h B G env σ H ok _ ((md env).mono (fun ds q1 vs G1 H1 e1 f1 d1 => by
    match ds, d1, q1 with
    | [.list es, .list gs], d1, q1 =>
      obtain ⟨v, w, rfl, hv, hw⟩ := dpa_two d1
      obtain ⟨p, xs, rfl, h1, h2⟩ := dp_lst hv
      obtain ⟨r, ys, rfl, h3, h4⟩ := dp_lst hw
      have l1 := dpa_len h2
      have l2 := dpa_len h4
      refine ⟨p, r, xs, ys, rfl, .inl ⟨ex_l f1.ex h1, ex_l f1.ex h3, q1 _ G1 H1 e1 f1 ⟨fun i H hi e => ?_, fun H e => ?_, fun i G2 H2 x H3 hi e2 e3 y => ?_⟩⟩⟩
      · rw [zipD_len] at hi
        exact ⟨xs, ys, xs[i]'(by omega), ys[i]'(by omega), ex_l e h1, ex_l e h3, List.getElem?_eq_getElem _, List.getElem?_eq_getElem _⟩
      · refine ⟨xs, ys, ex_l e h1, ex_l e h3, ?_⟩
        rw [zipD_len]; omega
      · obtain ⟨T, z, u, rfl, y2, rfl, y4, y5⟩ := y
        obtain ⟨d, g1, g2⟩ := dpa_get2 h2 (y4 xs (ex_l (e2.trans e3) h1))
        obtain ⟨d', g3, g4⟩ := dpa_get2 h4 (y5 ys (ex_l (e2.trans e3) h3))
        exact yld_zip e3 y2 (zipD_get g1 g3) (dp_ex e2 g2) (dp_ex e2 g4)
    | [.tuple es, .tuple gs], d1, q1 =>
      obtain ⟨v, w, rfl, hv, hw⟩ := dpa_two d1
      obtain ⟨p, xs, rfl, h1, h2⟩ := dp_tup hv
      obtain ⟨r, ys, rfl, h3, h4⟩ := dp_tup hw
      have l1 := dpa_len h2
      have l2 := dpa_len h4
      refine ⟨p, r, xs, ys, rfl, .inr ⟨ex_t f1.ex h1, ex_t f1.ex h3, q1 _ G1 H1 e1 f1 ⟨fun i H hi e => ?_, fun H e => ?_, fun i G2 H2 x H3 hi e2 e3 y => ?_⟩⟩⟩
      · rw [zipD_len] at hi
        exact ⟨xs, ys, xs[i]'(by omega), ys[i]'(by omega), ex_t e h1, ex_t e h3, List.getElem?_eq_getElem _, List.getElem?_eq_getElem _⟩
      · refine ⟨xs, ys, ex_t e h1, ex_t e h3, ?_⟩
        rw [zipD_len]; omega
      · obtain ⟨T, z, u, rfl, y2, rfl, y4, y5⟩ := y
        obtain ⟨d, g1, g2⟩ := dpa_get2 h2 (y4 xs (ex_t (e2.trans e3) h1))
        obtain ⟨d', g3, g4⟩ := dpa_get2 h4 (y5 ys (ex_t (e2.trans e3) h3))
        exact yld_zip e3 y2 (zipD_get g1 g3) (dp_ex e2 g2) (dp_ex e2 g4)) q)
end Z
namespace Z
open PySem PySem.Spec PyProof.Rows L2
open Evl (Ex fresh_back)
/-! ### enumerate(text) -/
def ItEs (z : Str) : It :=
  ⟨fun i _ => i < z.cps.size, fun i H v H' => ∃ T c, v = .ref T ∧ H T = none ∧ z.cps[i]? = some c ∧ H' = upd H T (.tup [.int (i : Nat), .str ⟨#[c]⟩]), fun i _ => z.cps.size ≤ i⟩
theorem turn_enumS {P : Program} {w : World} {K : PySem.W.Frag} {elts : List Expr} {kk : Nat} {tpos : Pos} (z : Str) (t : Tok) (e it : Addr) :
    Turn P w K (.Tuple elts kk tpos) (ItEs z) [e, it] e (fun i h => i ≤ z.cps.size ∧ (∃ old, IsEnum h e it ((i : Nat) : Int) old) ∧ h.IsStrIter it (strIterType z) z t i ∧ e ≠ it) where
  mem := by simp
  obj := fun i h st b hb => by
    obtain ⟨_, ⟨o1, q1⟩, ⟨o2, q2, c2, d2⟩, _⟩ := st
    rcases (by simpa using hb : b = e ∨ b = it) with z | z
    · rw [z]; exact ⟨_, q1, fun v q => nomatch q⟩
    · rw [z]; exact ⟨o2, q2, fun v q => by rw [d2] at q; cases q⟩
  keep := fun i h h' st k => ⟨st.1, st.2.1.imp fun old q => k e (by simp) _ q, let ⟨o, q, r⟩ := st.2.2.1; ⟨o, k it (by simp) o q, r⟩, st.2.2.2⟩
  item := by
    intro X hP hw hK hc i pins s σ H E I hf st hg
    subst hP hw hK
    obtain ⟨hle, ⟨old, he⟩, hit, hne⟩ := st
    have hi : i < z.cps.size := hg
    have lte : e < s.heap.objs.size := Heap.lt_size he
    have lti : it < s.heap.objs.size := by obtain ⟨_, q, _⟩ := hit; exact Heap.lt_size q
    refine wpAny_pyNext_enum_itemD (Draws.text (show X.A.in1.handled = none from I.ok.hd hc) it z t) he hit hi hne (by simp [hne]) fun x h' tk hx ho hst hT hsz hk => ?_
    obtain ⟨c, tu, hc1, rfl⟩ := hx
    refine ⟨_, rfl, wpAny_letOwnedTupleGo_enum (s := { s with heap := h', toks := tk + 1 }) ho fun h'' he' sb => ?_⟩
    have hT2 : h''.get? s.heap.objs.size = some { cls := .type "tuple", data := .seq #[.int i tk, .str ⟨#[c]⟩ tu] } := (sb.2 _ (Nat.ne_of_gt lte)).trans hT
    have nw : ObjOk X.prog X.w (upd H s.heap.objs.size (.tup [.int (i : Nat), .str ⟨#[c]⟩])) h'' s.heap.objs.size (.tup [.int (i : Nat), .str ⟨#[c]⟩]) :=
      ⟨by show 2 ≤ sizeLine; decide, [.int i tk, .str ⟨#[c]⟩ tu], .cons ⟨_, rfl⟩ (.cons ⟨_, rfl⟩ .nil), ⟨_, hT2, rfl, _, rfl⟩⟩
    have I1 : Inv X pins σ (upd H s.heap.objs.size (.tup [.int (i : Nat), .str ⟨#[c]⟩])) { s with heap := h'', toks := tk + 1 } :=
      I.turnedNew (ch := [e, it]) (fun b ob hb q => (sb.2 b (fun z => hb (by simp [z]))).trans (hk b ob (fun z => hb (by simp [z])) (fun z => hb (by simp [z])) q)) hf (Nat.le_refl _) nw
    refine ⟨.ref s.heap.objs.size, _, I1, rfl, ⟨_, c, rfl, I.hok.fresh (Nat.le_refl _), hc1, rfl⟩, ⟨hi, ⟨.str ⟨#[c]⟩ tu, ?_⟩, ?_, hne⟩, fun b hb => ?_⟩
    · have e1 : ((i + 1 : Nat) : Int) = (i : Int) + 1 := by omega
      rw [e1]; exact he'
    · obtain ⟨o, q, r⟩ := hst
      exact ⟨o, (sb.2 it (Ne.symm hne)).trans q, r⟩
    · have hb' : b < s.heap.objs.size := by
        rcases (by simpa using hb : b = e ∨ b = it) with z | z <;> rw [z] <;> assumption
      rw [upd_ne (Nat.ne_of_lt hb')]
      exact (hf b hb).1
  done := by
    intro X hP hw hK hc i pins s σ H E I hf st hg
    subst hP hw hK
    obtain ⟨hle, ⟨old, he⟩, hit, hne⟩ := st
    have hi : z.cps.size ≤ i := hg
    have ei : i = z.cps.size := Nat.le_antisymm hle hi
    subst ei
    obtain ⟨f0, f1, f2, f3, f4, f5⟩ := hf it (by simp)
    have hT : s.TypeIs (.ref e) "enumerate" := ⟨_, he, rfl⟩
    unfold pyNext
    refine wpAny_bind (wpAny_attempt (wpAny_callSpecial?_slot (name := Str.ofString "__next__") hT F.slot_enumerate_next (wpAny_call_entry F.slot_enumerate_next hT F.entry_enumerate_next ?_ (F.args_enumerate_next_1 _))))
    show wpAny _ _ (field (.ref e) 2 >>= _) _ _ _
    refine wpAny_bind (wpAny_field he rfl (x := .ref it) rfl ?_)
    refine wpAny_bind ((Draws.text (show X.A.in1.handled = none from I.ok.hd hc) it z t).done _ _ _ hit fun h' x hb hx => ?_)
    obtain ⟨o, ho, hco⟩ := hx
    refine wpAny_bind (wpAny_isInstance (T := "StopIteration") (b := true) ⟨o, ho, hco⟩ isSubtype_stop ?_)
    exact wpAny_pure ⟨rfl, I.turned (t' := s.toks) (fun b o hb2 q => hb b o hb2 q) f0 f1 f3 f4 f5⟩
  self := fun A i s Q E st h => st.2.1.elim fun _ he => wpAny_pyIter_enum he h
def iEnumA (K : PySem.W.Frag) (ta : TA) : TI := fun σ H R => ta σ H fun vs H1 => (∃ a xs, vs = [.ref a] ∧ SqL K H1 a xs ∧ R (Ite K a) H1) ∨ (∃ a xs, vs = [.ref a] ∧ SqT K H1 a xs ∧ R (ItEt K a) H1) ∨ ∃ z, vs = [.str z] ∧ R (ItEs z) H1
theorem pi_enumA {X : Cx} {e : Expr} {ta : TA} {p pos tpos : Pos} {elts : List Expr} {kk : Nat} (hg : Gl X "enumerate") (hm : X.mg "enumerate" = none) (ha : PA X [e] ta) (hs : starEach [e] X.env = [(false, eval e X.env)] := by rfl) :
    PI X (.Tuple elts kk tpos) (.Call (.Name "enumerate" p) [e] [] pos) (iEnumA X.K ta) := by
  refine ⟨fun pins s σ H R I h => ?_⟩
  refine Call_ (ld_blt I hg hm boot_enumerate (PyProof.Rows.callWith_type1 (thn (ha.run pos pins s σ H _ I h) fun us s1 ⟨vs, H1, I1, r1, q1⟩ => ?_) hs rfl))
  have fresh2 : ∀ b, b ∈ [s1.heap.objs.size + 1, s1.heap.objs.size] → s1.heap.objs.size ≤ b := fun b hb => by
    rcases (by simpa using hb : b = s1.heap.objs.size + 1 ∨ b = s1.heap.objs.size) with z | z <;> omega
  rcases q1 with ⟨a, xs, ex, hq, q⟩ | ⟨a, xs, ex, hq, q⟩ | ⟨z, ex, q⟩
  · subst ex
    obtain ⟨u, rfl, r⟩ := vals1 r1
    cases r
    obtain ⟨its, rv, p', hz⟩ := I1.list hq
    refine call_enumerate_list p'.isList fun h' he hit hsz hk => wpAny_pyIter_enum he ?_
    exact ⟨s1.heap.objs.size + 1, [s1.heap.objs.size + 1, s1.heap.objs.size], _, _, H1, rfl, I1.kept (t' := s1.toks) hk, turn_enum a _ _, ⟨⟨.none, he⟩, hit, Nat.succ_ne_self _⟩, fun b hb => I1.fpOk (fresh2 b hb) (I1.hok.fresh (fresh2 b hb)), q⟩
  · subst ex
    obtain ⟨u, rfl, r⟩ := vals1 r1
    cases r
    obtain ⟨its, rv, p', hz⟩ := I1.tuple hq
    refine enum_callZ (begins_tuple a its.toArray) p' fun h' he hit hk => wpAny_pyIter_enum he ?_
    exact ⟨s1.heap.objs.size + 1, [s1.heap.objs.size + 1, s1.heap.objs.size], _, _, H1, rfl, I1.kept (t' := s1.toks) hk, turn_enumT a _ _, ⟨⟨.none, he⟩, ⟨_, hit, rfl, rfl⟩, Nat.succ_ne_self _⟩, fun b hb => I1.fpOk (fresh2 b hb) (I1.hok.fresh (fresh2 b hb)), q⟩
  · subst ex
    obtain ⟨u, rfl, r⟩ := vals1 r1
    obtain ⟨t, rfl⟩ := r
    refine enum_callZ (begins_text z t) trivial fun h' he hit hk => wpAny_pyIter_enum he ?_
    exact ⟨s1.heap.objs.size + 1, [s1.heap.objs.size + 1, s1.heap.objs.size], _, _, H1, rfl, I1.kept (t' := s1.toks) hk, turn_enumS z t _ _, ⟨Nat.zero_le _, ⟨.none, he⟩, ⟨_, hit, rfl, rfl⟩, Nat.succ_ne_self _⟩, fun b hb => I1.fpOk (fresh2 b hb) (I1.hok.fresh (fresh2 b hb)), q⟩
section
variable [PoC] {K : PySem.W.Frag}
def enumOfA : List PyData → W (List PyData)
  | [.list ds] => pure (enumD 0 ds)
  | [.tuple ds] => pure (enumD 0 ds)
  | [.str z] => pure (enumD 0 (signsD z))
  | _ => W.fail
def mEnumA (md : Env → W (List PyData)) : Env → W (List PyData) := fun env => do enumOfA (← md env)
theorem tji_enumA {ta : TA} {md : Env → W (List PyData)} (h : TJD K ta md) : TJI K (iEnumA K ta) (mEnumA md) := fun B G env σ H ok R q =>
  h B G env σ H ok _ ((md env).mono (fun ds q1 vs G1 H1 e1 f1 d1 => by
    match ds, d1, q1 with
    | [.list es], d1, q1 =>
      obtain ⟨v, rfl, hv⟩ := dpa_one d1
      obtain ⟨p, xs, rfl, h1, h2⟩ := dp_lst hv
      refine .inl ⟨p, xs, rfl, ex_l f1.ex h1, q1 _ G1 H1 e1 f1 ⟨fun i H hi e => ⟨xs, xs[i]'(by rw [dpa_len h2]; rw [enumD_len] at hi; exact hi), ex_l e h1, List.getElem?_eq_getElem _⟩, fun H e => ⟨xs, ex_l e h1, by rw [dpa_len h2, enumD_len]; exact Nat.le_refl _⟩, fun i G2 H2 x H3 hi e2 e3 y => ?_⟩⟩
      obtain ⟨T, z, y1, y2, y3, y4⟩ := y
      obtain ⟨d, g1, g2⟩ := dpa_get2 h2 (y4 xs (ex_l (e2.trans e3) h1))
      exact yld_pair (e1 := e3) y1 y2 y3 g1 (dp_ex e2 g2)
    | [.tuple es], d1, q1 =>
      obtain ⟨v, rfl, hv⟩ := dpa_one d1
      obtain ⟨p, xs, rfl, h1, h2⟩ := dp_tup hv
      refine .inr (.inl ⟨p, xs, rfl, ex_t f1.ex h1, q1 _ G1 H1 e1 f1 ⟨fun i H hi e => ⟨xs, xs[i]'(by rw [dpa_len h2]; rw [enumD_len] at hi; exact hi), ex_t e h1, List.getElem?_eq_getElem _⟩, fun H e => ⟨xs, ex_t e h1, by rw [dpa_len h2, enumD_len]; exact Nat.le_refl _⟩, fun i G2 H2 x H3 hi e2 e3 y => ?_⟩⟩)
      obtain ⟨T, z, y1, y2, y3, y4⟩ := y
      obtain ⟨d, g1, g2⟩ := dpa_get2 h2 (y4 xs (ex_t (e2.trans e3) h1))
      exact yld_pair (e1 := e3) y1 y2 y3 g1 (dp_ex e2 g2)
    | [.str z], d1, q1 =>
      obtain ⟨v, rfl, hv⟩ := dpa_one d1
      cases hv
      have hl : (enumD 0 (signsD z)).length = z.cps.size := by rw [enumD_len]; simp [signsD]
      refine .inr (.inr ⟨z, rfl, q1 _ G1 H1 e1 f1 ⟨fun i H hi e => by rw [hl] at hi; exact hi, fun H e => by rw [hl]; exact Nat.le_refl _, fun i G2 H2 x H3 hi e2 e3 y => ?_⟩⟩)
      obtain ⟨T, c, y1, y2, y3, y4⟩ := y
      have g1 : (signsD z)[i]? = some (.str ⟨#[c]⟩) := by simp [signsD, y3]
      exact yld_pair (e1 := e3) y1 y2 y4 g1 (.str _)) q)
end
section
variable {e : Env} {mr : Env → W (List PyData)} {QL : List PyData → Prop}
@[simp] theorem r_mEnumA : (mEnumA mr e).run QL = (mr e).run fun r => (enumOfA r).run QL := rfl
@[simp] theorem enumOfA_l (ds : List PyData) : enumOfA [.list ds] = pure (enumD 0 ds) := rfl
@[simp] theorem enumOfA_t (ds : List PyData) : enumOfA [.tuple ds] = pure (enumD 0 ds) := rfl
@[simp] theorem enumOfA_s (z : Str) : enumOfA [.str z] = pure (enumD 0 (signsD z)) := rfl
end
end Z
namespace Z
open PySem PySem.Spec PyProof.Rows L2
open Evl (Ex fresh_back)
/-! ### dicts whose keys are tuples of ints and texts -/
section
variable [PoC] {K : PySem.W.Frag}
theorem tup_at {B : Ba} {G H : Hp} (f : Fra B G H) {p : Addr} {vs : List V} {ks : List Key} (e : vs = ks.map kV) (h : SqT K0 G p vs) : H p = some (.tup vs) := by
  rcases h with (h | ⟨o, h⟩) | ⟨o, its, n, h1, h2, _⟩
  · exact f.ex p _ h
  · obtain ⟨_, r, rs, e2⟩ := f.cl p _ h
    rw [e] at e2
    cases ks with
    | nil => cases e2
    | cons k ks =>
      cases k <;> cases e2
  · cases h1
def keysW : List PyData → W (List Key)
  | [] => pure []
  | d :: r => do let k ← keyW d; let ks ← keysW r; pure (k :: ks)
def keyT : PyData → W (List Key)
  | .tuple ds => keysW ds
  | _ => W.fail
theorem keysW_run : ∀ {ds : List PyData} {Q : List Key → Prop}, (keysW ds).run Q → ∃ ks, ds = ks.map kD ∧ Q ks
  | [], Q, h => ⟨[], rfl, h⟩
  | d :: r, Q, h => by
    obtain ⟨k, rfl, h2⟩ := keyW_run (Q := fun k => (keysW r).run fun ks => Q (k :: ks)) h
    obtain ⟨ks, rfl, h3⟩ := keysW_run h2
    exact ⟨k :: ks, rfl, h3⟩
theorem keyT_run {d : PyData} {Q : List Key → Prop} (h : (keyT d).run Q) : ∃ ks, d = .tuple (ks.map kD) ∧ Q ks := by
  cases d with
  | tuple ds => obtain ⟨ks, rfl, h2⟩ := keysW_run (Q := Q) h; exact ⟨ks, rfl, h2⟩
  | _ => exact h.elim
theorem dpa_kD {G : Hp} : ∀ {vs : List V} {ks : List Key}, DpAll K G vs (ks.map kD) → vs = ks.map kV
  | _, [], .nil => rfl
  | _, k :: ks, .cons a r => by rw [dp_kD (K := K) a]; exact congrArg _ (dpa_kD r)
theorem keysW_map : ∀ (ks : List Key) (Q : List Key → Prop), (keysW (ks.map kD)).run Q = Q ks
  | [], _ => rfl
  | k :: ks, Q => by
    have e : keyW (kD k) = pure k := by cases k <;> rfl
    show (keyW (kD k)).run _ = _
    rw [e]
    exact keysW_map ks fun r => Q (k :: r)
@[simp] theorem keyT_S (s : List Str) (Q : List Key → Prop) : (keyT (.tuple (s.map PyData.str))).run Q = Q (s.map .inr) := by
  have e : s.map PyData.str = (s.map (Sum.inr : Str → Key)).map kD := by rw [List.map_map]; rfl
  show (keysW _).run Q = _
  rw [e, keysW_map]
/-- the key as it stands in the heap -/
theorem key_at {B : Ba} {G H : Hp} (f : Fra B G H) {v : V} {ks : List Key} (h : Dp K G v (.tuple (ks.map kD))) : ∃ p, v = .ref p ∧ H p = some (.tup (ks.map kV)) := by
  obtain ⟨p, vs, rfl, h1, h2⟩ := dp_tup h
  exact ⟨p, rfl, by rw [← dpa_kD h2]; exact tup_at f (dpa_kD h2) h1⟩
end
section
variable [PoC] {M : Ba → Prop} {K : PySem.W.Frag} {te ta tb : TE} {m ma mb : Env → W PyData}
def asDT : Sl → W (List (List Key × PyData))
  | .dT kvs => pure kvs
  | _ => W.fail
theorem asDT_run {s : Sl} {Q : List (List Key × PyData) → Prop} (h : (asDT s).run Q) : ∃ kvs, s = .dT kvs ∧ Q kvs := by
  cases s with
  | dT kvs => exact ⟨kvs, rfl, h⟩
  | _ => exact h.elim
def asDRT : Sl → W (List (List Key × PyData))
  | .dT kvs => pure kvs
  | .rT kvs => pure kvs
  | _ => W.fail
theorem asDRT_run {s : Sl} {Q : List (List Key × PyData) → Prop} (h : (asDRT s).run Q) : ∃ kvs, (s = .dT kvs ∨ s = .rT kvs) ∧ Q kvs := by
  cases s with
  | dT kvs => exact ⟨kvs, .inl rfl, h⟩
  | rT kvs => exact ⟨kvs, .inr rfl, h⟩
  | _ => exact h.elim
theorem ROk.dtAt {B : Ba} {G H : Hp} {env : Env} {σ : L2.St} (ok : ROk K B G env σ H) {j : Nat} {kvs : List (List Key × PyData)} (e : gt env j = .dT kvs ∨ gt env j = .rT kvs) :
    ∃ p es, sg σ j = some (.ref p) ∧ KVD K G es kvs ∧ ∀ G' H', Ex G G' → Fra B G' H' → Rd H' p (.dT es) := by
  have s := ok.sl j
  rcases e with e | e
  · rw [e] at s
    obtain ⟨p, es, h1, h2, h3, h4, h5⟩ := s
    exact ⟨p, es, h1, kvd_ex ok.fra.old h5, fun G' H' _ f => .inl (f.keep p _ h3 h2)⟩
  · rw [e] at s
    obtain ⟨p, es, h1, h2, h3⟩ := s
    exact ⟨p, es, h1, h3, fun G' H' e f => rd_ex f.ex (rd_ex e h2)⟩
theorem dgR {H : Hp} {a b : Addr} {kvs : List (List Key × V)} {k : List Key} (e : Rd H a (.dT kvs)) (eb : H b = some (.tup (k.map kV))) : DGet H a (.ref b) (valV kvs k) := .inr ⟨kvs, k, b, e, rfl, eb, rfl⟩
theorem look_someT {G : Hp} {es : List (List Key × V)} {kvs : List (List Key × PyData)} {k : List Key} (h : KVD K G es kvs) : (valV es k).isSome = (lookP kvs k).isSome := by
  rcases kvd_look (k := k) h with ⟨h1, h2⟩ | ⟨d, v, h1, h2, _⟩ <;> rw [h1, h2] <;> rfl
def mDInT (neg : Bool) (j : Nat) (m : Env → W PyData) : Env → W PyData := fun env => do
  let kvs ← asDRT (gt env j)
  let k ← keyT (← m env)
  pure (.bool (if neg then !(lookP kvs k).isSome else (lookP kvs k).isSome))
theorem tj_dinT {j : Nat} (h : TJ K te m) : TJ K (tDIn te (tVar j)) (mDInT false j m) := fun B G env σ H ok Q q => by
  obtain ⟨kvs, hj, q⟩ := asDRT_run q
  obtain ⟨p, es, h1, h2, h3⟩ := ok.dtAt hj
  refine h B G env σ H ok _ ((m env).mono (fun d q1 v G1 H1 e1 f1 d1 => ?_) q)
  obtain ⟨k, rfl, q2⟩ := keyT_run q1
  obtain ⟨b, rfl, eb⟩ := key_at f1 d1
  refine ⟨_, sg_some h1, p, valV es k, rfl, dgR (h3 G1 H1 e1 f1) eb, ?_⟩
  rw [look_someT h2]; exact q2 _ G1 H1 e1 f1 (.bl _)
theorem tj_dnotinT {j : Nat} (h : TJ K te m) : TJ K (tDNotIn te (tVar j)) (mDInT true j m) := fun B G env σ H ok Q q => by
  obtain ⟨kvs, hj, q⟩ := asDRT_run q
  obtain ⟨p, es, h1, h2, h3⟩ := ok.dtAt hj
  refine h B G env σ H ok _ ((m env).mono (fun d q1 v G1 H1 e1 f1 d1 => ?_) q)
  obtain ⟨k, rfl, q2⟩ := keyT_run q1
  obtain ⟨b, rfl, eb⟩ := key_at f1 d1
  refine ⟨_, sg_some h1, p, valV es k, rfl, dgR (h3 G1 H1 e1 f1) eb, ?_⟩
  rw [look_someT h2]; exact q2 _ G1 H1 e1 f1 (.bl _)
def mDGetT (j : Nat) (m : Env → W PyData) : Env → W PyData := fun env => do
  let kvs ← asDRT (gt env j)
  let k ← keyT (← m env)
  asSome (lookP kvs k)
theorem tj_dgetT {j : Nat} (h : TJ K te m) : TJ K (tDGet (tVar j) te) (mDGetT j m) := fun B G env σ H ok Q q => by
  obtain ⟨kvs, hj, q⟩ := asDRT_run q
  obtain ⟨p, es, h1, h2, h3⟩ := ok.dtAt hj
  refine ⟨_, sg_some h1, h B G env σ H ok _ ((m env).mono (fun d q1 v G1 H1 e1 f1 d1 => ?_) q)⟩
  obtain ⟨k, rfl, q2⟩ := keyT_run q1
  obtain ⟨b, rfl, eb⟩ := key_at f1 d1
  rcases kvd_look (k := k) h2 with ⟨c1, c2⟩ | ⟨d, u, c1, c2, c3⟩
  · simp only [c1, asSome, run_fail] at q2
  · simp only [c1, asSome, run_pure] at q2
    exact ⟨p, u, rfl, by rw [← c2]; exact dgR (h3 G1 H1 e1 f1) eb, q2 _ G1 H1 e1 f1 (dp_ex e1 c3)⟩
def mDGet2T (j : Nat) (m mx : Env → W PyData) : Env → W PyData := fun env => do
  let kvs ← asDRT (gt env j)
  let k ← keyT (← m env)
  let x ← mx env
  pure ((lookP kvs k).getD x)
theorem tj_dget2T {j : Nat} {tx : TE} {mx : Env → W PyData} (h : TJ K te m) (hx : TJ K tx mx) : TJ K (tDGet2 (tVar j) te tx) (mDGet2T j m mx) := fun B G env σ H ok Q q => by
  obtain ⟨kvs, hj, q⟩ := asDRT_run q
  obtain ⟨p, es, h1, h2, h3⟩ := ok.dtAt hj
  refine ⟨_, sg_some h1, p, rfl, .inr ⟨es, h3 G H (Ex.refl _) ok.fra⟩, h B G env σ H ok _ ((m env).mono (fun d q1 v G1 H1 e1 f1 d1 => ?_) q)⟩
  obtain ⟨k, rfl, q2⟩ := keyT_run q1
  refine hx B G1 env σ H1 (ok.go e1 f1) _ ((mx env).mono (fun x q3 u G2 H2 e2 f2 d2 => ?_) q2)
  obtain ⟨b, rfl, eb⟩ := key_at f2 (dp_ex e2 d1)
  refine ⟨valV es k, dgR (h3 G2 H2 (e1.trans e2) f2) eb, ?_⟩
  rcases kvd_look (k := k) h2 with ⟨c1, c2⟩ | ⟨d, w, c1, c2, c3⟩
  · simp only [c1, Option.getD_none, run_pure] at q3; rw [c2]; exact q3 _ G2 H2 (e1.trans e2) f2 d2
  · simp only [c1, Option.getD_some, run_pure] at q3; rw [c2]; exact q3 _ G2 H2 (e1.trans e2) f2 (dp_ex (e1.trans e2) c3)
def sDPutT (j : Nat) (mk mv : Env → W PyData) : Ms := fun env => do
  let kvs ← asDT (gt env j)
  let d ← mv env
  let k ← keyT (← mk env)
  W.need (kvs.length < sizeLine)
  pure (.nx, env.set j (.dT (putP kvs k d)))
theorem tjs_dputT {j : Nat} {tk tv : TE} {mk mv : Env → W PyData} (hk : TJ K tk mk) (hv : TJ K tv mv) : TJS M K (L2.sDPut (tVar j) tk tv) (sDPutT j mk mv) := fun B G fps env σ H ok hm D q => by
  obtain ⟨kvs, hj, q⟩ := asDT_run q
  refine ok.ev hv ((mv env).mono (fun d q1 v G1 H1 e1 ok1 d1 => ?_) q)
  have s := ok1.sl j
  rw [hj] at s
  obtain ⟨p, es, h1, h2, h3, h4, h5⟩ := s
  refine ⟨_, sg_some h2, ok1.ev hk ((mk env).mono (fun dk q2 u G2 H2 e2 ok2 d2 => ?_) q1)⟩
  obtain ⟨k, rfl, q3⟩ := keyT_run q2
  have s' := ok2.sl j
  rw [hj] at s'
  obtain ⟨p', es', h1', h2', h3', h4', h5'⟩ := s'
  rw [h1] at h1'
  cases h1'
  obtain ⟨b, rfl, eb⟩ := key_at ok2.fra d2
  refine ⟨p, _, rfl, DPut.t h4' eb (by rw [kvd_len h5']; exact q3.1), ?_⟩
  exact q3.2 G2 fps σ _ (e1.trans e2) (ok2.wrB h1 (s := .dT (putP kvs k d)) ⟨p, _, rfl, rfl, h3', upd_same, kvd_put (dp_ex e2 d1) h5'⟩)
/-! sorted(d) -/
abbrev tkD (k : List Key) : PyData := .tuple (k.map kD)
def rSortDT : List V → Hp → VK → Prop := fun xs H Q => ∃ a es, xs = [.ref a] ∧ Rd H a (.dT es) ∧ sortable (es.map fun p => tkD p.1) ∧ es.length ≤ sizeLine ∧
  ∀ p ws, H p = none → (∀ (K : PySem.W.Frag) (G : Hp), (∀ b xs, H b = some (.tup xs) → G b = some (.tup xs)) → DpAll K G ws (sortD (es.map fun p => tkD p.1))) → Q (.ref p) (upd H p (.lst ws))
theorem kdl_raw {prog : Program} {w : World} {d : Addr} {es : Array DictEntry} {ep : Nat} (lo : (d == sysModules) = false) :
    PySem.W.KdlSrc prog w "dict" d d es.size (fun i v => ∃ hi : i < es.size, v = es[i].key) (fun h => h.DictRaw d es ep) where
  type := fun _ hm => hm.typeIs
  there := fun _ hm => by obtain ⟨o, ho, _⟩ := hm; exact ⟨Heap.lt_size ho, Heap.lt_size ho⟩
  keep := fun _ _ hm hk => hm.at fun o e => hk d (.inl rfl) o e
  notList := by decide
  notTuple := by decide
  hint := fun _ _ _ _ hm hq => PySem.W.kdl_hint_dict hm.typeIs hq
  iter := fun _ s hh hm => ⟨_, _, (fun _ _ hq => wpAny_pyIter_dict_raw lo hm hq), Walks.rawKeys hh _ d (by obtain ⟨o, ho, _⟩ := hm; exact Nat.ne_of_lt (Heap.lt_size ho)) es ep, ⟨⟨_, Heap.get?_push_size _ rfl, rfl, rfl⟩, hm.at fun o e => Heap.get?_push_of_some _ e⟩⟩
theorem dpa_kV {G : Hp} : ∀ ks : List Key, DpAll K G (ks.map kV) (ks.map kD)
  | [] => .nil
  | k :: ks => .cons (by cases k; exact .int _; exact .str _) (dpa_kV ks)
theorem each_keysT {R : Value → PyData → Prop} : ∀ {us : List Value} {ks : List (List Key)}, us.length = ks.length → (∀ (j : Nat) (u : Value) (k : List Key), us[j]? = some u → ks[j]? = some k → R u (tkD k)) → PySem.W.EachIs R us (ks.map tkD)
  | [], [], _, _ => .nil
  | [], _ :: _, h, _ => by simp at h
  | _ :: _, [], h, _ => by simp at h
  | u :: us, k :: ks, h, f => .cons (f 0 u k rfl rfl) (each_keysT (by simpa using h) fun j u k h1 h2 => f (j + 1) u k (by simpa using h1) (by simpa using h2))
theorem each_dt {H : Hp} {us : List Value} {ds : List PyData} (h : PySem.W.EachIs (fun u d => ∃ x, RelV x u ∧ ∀ (K : PySem.W.Frag) (G : Hp), (∀ b xs, H b = some (.tup xs) → G b = some (.tup xs)) → Dp K G x d) us ds) :
    ∃ vs, Vals vs us ∧ ∀ (K : PySem.W.Frag) (G : Hp), (∀ b xs, H b = some (.tup xs) → G b = some (.tup xs)) → DpAll K G vs ds := by
  induction h with
  | nil => exact ⟨[], .nil, fun _ _ _ => .nil⟩
  | cons a t ih =>
    obtain ⟨vs, h1, h2⟩ := ih
    obtain ⟨x, r, d⟩ := a
    exact ⟨x :: vs, .cons r h1, fun K G g => .cons (d K G g) (h2 K G g)⟩
theorem pairedAt {α β : Type} {R : α → β → Prop} : ∀ {l : List α} {m : List β}, Paired R l m → ∀ (i : Nat) (y : β), m[i]? = some y → ∃ x, l[i]? = some x ∧ R x y
  | _, _, .nil, i, y, h => by simp at h
  | _, _, .cons a r, 0, y, h => by simp at h; subst h; exact ⟨_, rfl, a⟩
  | _, _, .cons a r, i + 1, y, h => by
    obtain ⟨x, h1, h2⟩ := pairedAt r i y (by simpa using h)
    exact ⟨x, by simpa using h1, h2⟩
theorem call_sortDT {X : Cx} (hu : X.A.units + 64 < cLine) (hc : X.calm = true) : CallR X (.builtin "sorted") rSortDT := by
  intro pins s σ H xs us Q I r h
  obtain ⟨a, es, rfl, hd, hs, hz, q⟩ := h
  obtain ⟨u, rfl, rx⟩ := vals1 r
  cases rx
  obtain ⟨z, lo, xs, rel, dd⟩ := dt_rd I.hok hd
  obtain ⟨et, ep, hat, hsz, hent⟩ := dd.raw
  have hl : xs.length = es.length := (paired_len rel).symm
  have key : ∀ (acc : Array Value), ItemsOf (fun i v => ∃ hi : i < et.size, v = et[i].key) acc et.size → ∀ (R : Value → PyData → Prop), (∀ (k : List Key) (b : Addr), H b = some (.tup (k.map kV)) → R (.ref b) (tkD k)) →
      PySem.W.EachIs R acc.toList ((es.map (·.1)).map tkD) := fun acc hacc R f => by
    refine each_keysT (by rw [Array.length_toList, hacc.1, List.length_map, hsz, hl]) fun j u k h1 h2 => ?_
    obtain ⟨hi, rfl⟩ := hacc.2 j u (by rw [← Array.getElem?_toList]; exact h1)
    obtain ⟨y, e1, e2, _, _⟩ := hent j hi
    obtain ⟨x, e3, e4, e5, _⟩ := pairedAt rel j y e1
    rw [List.getElem?_map, e3] at h2
    cases h2
    rw [e2]
    exact f x.1 y.2.1 e5
  have emap : (es.map fun p => tkD p.1) = (es.map (·.1)).map tkD := by rw [List.map_map]; rfl
  have dk : ∀ (K : PySem.W.Frag) (G : Hp) (k : List Key) (b : Addr), G b = some (.tup (k.map kV)) → Dp K G (.ref b) (tkD k) := fun K G k b e => .tup (.inl (.inl e)) (dpa_kV (K := K) k)
  refine sorted_any (ds := es.map fun p => tkD p.1) (R := fun u d => ∃ x, RelV x u ∧ ∀ (K : PySem.W.Frag) (G : Hp), (∀ b xs, H b = some (.tup xs) → G b = some (.tup xs)) → Dp K G x d) (fun E' Q' h => ?_) hs (by rw [List.length_map]; exact hz) (by omega) fun h1 p h' tk out n k1 hp k2 hat hlen ho => ?_
  · refine PySem.W.kdu_collect (A := X.A.in1) (kdl_raw (es := et) (ep := ep) lo) (I.ok.hd hc) hat (by rw [hsz, hl]; exact hz) fun h' tk acc hk hacc => ?_
    refine h acc.toList h' tk hk (emap ▸ key acc hacc _ fun k b e => ⟨.ref b, rfl, fun K G g => dk K G k b (g b _ e)⟩) (emap ▸ key acc hacc _ fun k b e => ?_)
    exact Dp.reads I (tkD k) (.ref b) (.ref b) (dp0 (dk X.K H k b e)) rfl
  · obtain ⟨ws, w1, w2⟩ := each_dt ho
    have I1 : Inv X pins σ H { s with heap := h1, toks := tk } := I.kept k1
    exact ⟨.ref p, upd H p (.lst ws), I1.laid (t' := tk) k2 hp ⟨by rw [w1.length, hlen, List.length_map]; exact hz, out, n, w1, hat⟩, rfl, q p ws (I1.hok.fresh hp) w2⟩
def mSortDT (j : Nat) : Env → W (List PyData) := fun env => do
  let kvs ← asDRT (gt env j)
  W.need (sortable (kvs.map fun p => tkD p.1) ∧ kvs.length ≤ sizeLine)
  pure (sortD (kvs.map fun p => tkD p.1))
theorem kvd_keysT {G : Hp} : ∀ {es : List (List Key × V)} {kvs : List (List Key × PyData)}, KVD K G es kvs → (es.map fun p => tkD p.1) = kvs.map fun p => tkD p.1
  | _, _, .nil => rfl
  | _, _, .cons a r => by simp only [List.map_cons, a.1, kvd_keysT r]
theorem tjl_sortDT {j : Nat} : TJL K (tCB rSortDT (tCons (tVar j) tNil)) (mSortDT j) := fun B G env σ H ok Q q => by
  obtain ⟨kvs, hj, q⟩ := asDRT_run q
  obtain ⟨p, es, h1, h2, h3⟩ := ok.dtAt hj
  refine ⟨_, sg_some h1, p, es, rfl, h3 G H (Ex.refl _) ok.fra, by rw [kvd_keysT h2]; exact q.1.1, by rw [kvd_len h2]; exact q.1.2, fun t ws ht hw => ?_⟩
  exact q.2 t ws G _ (Ex.refl _) (ok.fra.lay ht) (ok.fra.free ht) (fresh_back ok.fra.ex ht) upd_same (by rw [← kvd_keysT h2]; exact hw K G ok.fra.tu)
end
section
variable {Q : PyData → Prop} {QL : List PyData → Prop} {e : Env} {m ma : Env → W PyData} {j : Nat}
@[simp] theorem asDT_dT (ds : List (List L2.Key × PyData)) : asDT (.dT ds) = pure ds := rfl
@[simp] theorem asDRT_dT (ds : List (List L2.Key × PyData)) : asDRT (.dT ds) = pure ds := rfl
@[simp] theorem asDRT_rT (ds : List (List L2.Key × PyData)) : asDRT (.rT ds) = pure ds := rfl
@[simp] theorem r_mDInT (neg : Bool) : (mDInT neg j m e).run Q = (asDRT (gt e j)).run fun kvs => (m e).run fun d => (keyT d).run fun k => Q (.bool (if neg then !(lookP kvs k).isSome else (lookP kvs k).isSome)) := rfl
@[simp] theorem r_mDGetT : (mDGetT j m e).run Q = (asDRT (gt e j)).run fun kvs => (m e).run fun d => (keyT d).run fun k => (asSome (lookP kvs k)).run Q := rfl
@[simp] theorem r_mDGet2T : (mDGet2T j m ma e).run Q = (asDRT (gt e j)).run fun kvs => (m e).run fun d => (keyT d).run fun k => (ma e).run fun x => Q ((lookP kvs k).getD x) := rfl
@[simp] theorem r_mSortDT : (mSortDT j e).run QL = (asDRT (gt e j)).run fun kvs => (sortable (kvs.map fun p => tkD p.1) ∧ kvs.length ≤ sizeLine) ∧ QL (sortD (kvs.map fun p => tkD p.1)) := rfl
@[simp] theorem r_sDPutT {Q : Fl × Env → Prop} (mk mv : Env → W PyData) : (sDPutT j mk mv e).run Q = (asDT (gt e j)).run fun kvs => (mv e).run fun d => (mk e).run fun x => (keyT x).run fun k => kvs.length < sizeLine ∧ Q (.nx, e.set j (.dT (putP kvs k d))) := rfl
@[simp] theorem r_sNewT {i : Nat} {Q : Fl × Env → Prop} : (sNewT i e).run Q = Q (.nx, e.set i (.dT [])) := rfl
@[simp] theorem lendS_dT (k : List (List L2.Key × PyData)) : lendS (.dT k) = .dT k := rfl
end
end Z
namespace Z
open PySem PySem.Spec PyProof.Rows L2
open Evl (Ex fresh_back)
/-! ### a flat deck: a list of ints alone -/
structure WInv (n : Nat) (zs : List Int) : Prop where
  len : zs.length = 3
  i0 : 0 ≤ zs.getD 0 0
  i2 : 0 ≤ zs.getD 2 0 ∧ zs.getD 2 0 ≤ n
theorem WInv.up {n : Nat} {zs : List Int} (h : WInv n zs) (c : Nat) : WInv (n + c) zs := ⟨h.len, h.i0, h.i2.1, by have := h.i2.2; omega⟩
def DrawF (F : Fam) : Prop := F.fp = [F.p] ∧ ∀ n H, F.C n H ↔ ∃ zs : List Int, H F.p = some (.lst (zs.map V.int)) ∧ WInv n zs
section
variable [PoC]
def Wst (p : Addr) (fps : Fps) (env : Env) (H : Hp) : Prop :=
  ∃ zs : List Int, fg fps 0 = some p ∧ H p = some (.lst (zs.map V.int)) ∧ gt env 0 = .lst (zs.map PyData.int)
def TJW (p : Addr) (K : PySem.W.Frag) (tu : TS) (ms : Ms) : Prop :=
  ∀ (B : Ba) (G : Hp) (fps : Fps) (env : Env) (σ : L2.St) (H : Hp), Ok K B G fps env σ H → Wst p fps env H → ∀ D : Ends,
    ((ms env).run fun r => ∀ G' fps' σ' H', Ex G G' → Ok K B G' fps' r.2 σ' H' → Wst p fps' r.2 H' → FlOk K B D r.1 G' σ' H') → tu D σ H
variable {K : PySem.W.Frag} {te ta tb : TE} {m ma mb : Env → W PyData} {tu tv : TS} {mu mv : Ms} {p : Addr}
section
variable {B : Ba} {G H : Hp} {fps : Fps} {env : Env} {σ : L2.St}
theorem Wst.fra (ps : Wst p fps env H) (ok : Ok K B G fps env σ H) {G' H' : Hp} (f : Fra (bas G H (fpsOf B.ops) B.ops) G' H') : Wst p fps env H' := by
  obtain ⟨zs, h1, h2, h3⟩ := ps
  obtain ⟨b, nn, hr⟩ := (ok.sl 0).box h1
  refine ⟨zs, h1, f.keep p _ h2 fun z => ?_, h3⟩
  obtain ⟨q, hq, ha⟩ := mem_fpsOf.mp z
  exact b.2.2 q hq ha
theorem Ok.evW (ok : Ok K B G fps env σ H) (ps : Wst p fps env H) (h : TJ K te m) {Q : VK} (q : (m env).run fun d => ∀ v G' H', Ex G G' → Ok K B G' fps env σ H' → Wst p fps env H' → Dp K G' v d → Q v H') : te σ H Q :=
  h _ G env σ H ok.view Q ((m env).mono (fun d k v G' H' e f dv => k v G' H' e (ok.back f) (ps.fra ok f) dv) q)
end
theorem Wst.put {fps : Fps} {env : Env} {H : Hp} {i : Nat} {s : Sl} {f : Option Addr} (ps : Wst p fps env H) (hi : i ≠ 0) : Wst p (fps.set i f) (env.set i s) H := by
  obtain ⟨zs, h1, h2, h3⟩ := ps
  refine ⟨zs, ?_, h2, ?_⟩
  · rw [fg_set, if_neg (fun z => hi z.1)]; exact h1
  · rw [gt_set, if_neg (fun z => hi z.1)]; exact h3
theorem tjw_asg {i : Nat} (hi : i ≠ 0) (h : TJ K te m) : TJW p K (tAsg te (gName i)) (sAsg i m) := fun B G fps env σ H ok ps D q =>
  ok.evW ps h ((m env).mono (fun d k v G' H' e ok' ps' dv => k G' _ _ H' e (ok'.put (i := i) (f := none) (s := .imm d) (o := some v) ⟨rfl, v, rfl, dv⟩ (fun p j z => by cases z)) (ps'.put hi)) q)
theorem tjw_set {k : Nat} (h : TJ K te m) : TJW p K (tAsg te (gSub (tVar 0) (tC (.int k)) rSetL)) (sSetP k m) := fun B G fps env σ H ok ps D q => by
  obtain ⟨ds, hg, q⟩ := asL_run q
  refine ok.evW ps h ((m env).mono (fun d k1 v G1 H1 e1 ok1 ps1 dv => ?_) q)
  cases d with
  | int z =>
    cases dv
    obtain ⟨zs, g1, g2, g3⟩ := ps1
    obtain ⟨p', vs, h1, h2, h3, h4, h5⟩ := ok1.lstAt hg
    rw [g1] at h1
    cases h1
    rw [g2] at h4
    cases h4
    rw [g3] at hg
    cases hg
    have kl := k1.1
    have hix : ixN (zs.map V.int).length (k : Int) = some k := by
      unfold ixN
      rw [if_pos (by omega), if_pos (by simpa using kl)]
      simp
    have ok2 := ok1.wrB g1 (s := .lst ((zs.map PyData.int).set k (.int z))) (o := .lst ((zs.map V.int).set k (.int z))) ⟨p, _, rfl, rfl, h3, upd_same, dpa_set (.int z) _ h5⟩
    refine ⟨_, sg_some h2, p, _, (k : Int), k, rfl, rfl, g2, hix, k1.2 G1 _ _ _ e1 ok2 ⟨zs.set k z, g1, ?_, ?_⟩⟩
    · rw [upd_same]; simp [List.map_set]
    · have l0 : 0 < env.length := by
        rcases Nat.lt_or_ge 0 env.length with h | h
        · exact h
        · have : gt env 0 = .any := getD_out env 0 .any h
          rw [this] at g3; cases g3
      rw [gt_set, if_pos ⟨rfl, l0⟩]; simp [List.map_set]
  | _ => exact k1.elim
theorem tjw_seq (h1 : TJW p K tu mu) (h2 : TJW p K tv mv) : TJW p K (tSeq tu tv) (sSeq mu mv) := fun B G fps env σ H ok ps D q =>
  h1 B G fps env σ H ok ps _ ((mu env).mono (fun r k G' fps' σ' H' e ok' ps' => by
    obtain ⟨fl, e1⟩ := r
    cases fl with
    | nx => exact h2 B G' fps' e1 σ' H' ok' ps' D ((mv e1).mono (fun r2 k2 G2 fps2 σ2 H2 e2 ok2 => k2 G2 fps2 σ2 H2 (e.trans e2) ok2) k)
    | bk => exact k G' fps' σ' H' e ok' ps'
    | ct => exact k G' fps' σ' H' e ok' ps'
    | rt v => exact k G' fps' σ' H' e ok' ps') q)
theorem tjw_nil : TJW p K tNext sNil := fun B G fps env σ H ok ps D q => q G fps σ H (Ex.refl _) ok ps
theorem tjw_if {tt : TT} {mt : Env → W Bool} (ht : TJT K tt mt) (h1 : TJW p K tu mu) (h2 : TJW p K tv mv) : TJW p K (tIfS tt tu tv) (sIf mt mu mv) := fun B G fps env σ H ok ps D q =>
  ht _ G env σ H ok.view _ ((mt env).mono (fun b k G' H' e f => by
    have ok' := ok.back f
    have ps' := ps.fra ok f
    cases b with
    | true => exact h1 B G' fps env σ H' ok' ps' D ((mu env).mono (fun r2 k2 G2 fps2 σ2 H2 e2 ok2 => k2 G2 fps2 σ2 H2 (e.trans e2) ok2) k)
    | false => exact h2 B G' fps env σ H' ok' ps' D ((mv env).mono (fun r2 k2 G2 fps2 σ2 H2 e2 ok2 => k2 G2 fps2 σ2 H2 (e.trans e2) ok2) k)) q)
theorem tjw_ret (h : TJ K te m) : TJW p K (tRet te) (sRet m) := fun B G fps env σ H ok ps D q =>
  ok.evW ps h ((m env).mono (fun d k v G' H' e ok' ps' dv => k G' fps σ H' e ok' ps' v dv) q)
variable [FaC]
def DrawP (K : PySem.W.Frag) : Prop := ∀ F, FaC.FO F → DrawF F
theorem draw_bodyN {N : List Str} {k : Nat} (hP : DrawP K) (h : ∀ p, TJW p K tu mu) (hN : N.length = 2 + k)
    (plain : ∀ (zs : List Int) (n : Int) (lv : Nat), WInv lv zs → lv + 1 ≤ nMax → 1 ≤ n ∧ n < 2 ^ 62 → (mu ([.lst (zs.map PyData.int), .imm (.int n)] ++ List.replicate k .any)).run fun r =>
      (∃ x, r.1 = .rt (.im (.int x)) ∧ 0 ≤ x ∧ x < n) ∧ ∃ is : List Int, gt r.2 0 = .lst (is.map PyData.int) ∧ WInv (lv + 1) is)
    {vs : List V} {H : Hp} {Q : VK} {E : XK} (hs : spFN 1 K 2 mNext vs H Q E) : tu { nx := fun _ H' => Q .non H', rt := Q } (start N vs) H := by
  obtain ⟨F, lv, G, args, hF, hlv, f, hl, hp, hrun⟩ := hs
  match args, hp, hrun with
  | [.opq j, .imm (.int n)], .cons h1 (.cons h2 .nil), hrun =>
    obtain ⟨q, hq, rfl⟩ := h1
    cases h2
    have hqe : q = F.op lv := List.mem_singleton.mp (List.mem_of_getElem? hq)
    subst hqe
    obtain ⟨hfp, hC⟩ := hP F hF.2
    obtain ⟨hc, hg⟩ := f.ops (F.op lv) (List.mem_singleton.mpr rfl)
    obtain ⟨zs, e1, e2⟩ := (hC lv H).mp hc
    have gn : G F.p = none := (hg F.p (by show F.p ∈ F.fp; rw [hfp]; simp)).1
    have f1 : Fra (bas G H [F.p] []) G H := ⟨f.ex, Ex.refl _, fun _ _ e _ => e, fun _ e => e, fun _ _ e => e, fun q hq => (by cases hq), fun q hq => (by cases hq), fun q hq => (by cases hq), Nat.zero_le _, f.st, f.cl, f.tu⟩
    have ok : Ok K (bas G H [F.p] []) G ([some F.p, none] ++ List.replicate k none) ([.lst (zs.map PyData.int), .imm (.int n)] ++ List.replicate k .any) (start N [.ref F.p, .int n]) H := by
      refine ⟨f1, by simp [L2.start]; omega, by simp [L2.start]; omega, fun i => ?_, fun i j p hi hj => ?_⟩
      · match i with
        | 0 =>
          refine ⟨F.p, zs.map V.int, rfl, rfl, ⟨gn, .inl (by simp), fun q hq => by cases hq⟩, e1, dp_nums (K := K) _⟩
        | 1 => exact ⟨rfl, .int n, rfl, .int n⟩
        | i + 2 =>
          have e3 : fg ([some F.p, none] ++ List.replicate k none) (i + 2) = none := by show (List.replicate k none).getD i none = none; exact getD_rep
          have e4 : gt ([.lst (zs.map PyData.int), .imm (.int n)] ++ List.replicate k .any) (i + 2) = .any := by show (List.replicate k Sl.any).getD i .any = .any; exact getD_rep
          rw [e3, e4]
          exact rfl
      · have z : ∀ i, fg ([some F.p, none] ++ List.replicate k none) i = some p → i = 0 := fun i h => by
          match i with
          | 0 => rfl
          | 1 => cases h
          | i + 2 =>
            have e3 : fg ([some F.p, none] ++ List.replicate k none) (i + 2) = none := by show (List.replicate k none).getD i none = none; exact getD_rep
            rw [e3] at h; cases h
        rw [z i hi, z j hj]
    refine h F.p _ G _ _ _ H ok ⟨zs, rfl, e1, rfl⟩ _ ((mu _).mono (fun r k1 G' fps' σ' H' e ok' ps' => ?_) (plain zs n lv e2 hlv hrun.1))
    obtain ⟨⟨x, rx, x0, x1⟩, is, gi, pi⟩ := k1
    obtain ⟨is', w1, w2, w3⟩ := ps'
    have ei : is' = is := by
      rw [gi] at w3
      injection w3 with w3
      exact (int_inj _ _ w3).symm
    subst ei
    rw [rx]
    intro v dv
    have f2 := ok'.fra
    have bx := ((ok'.sl 0).box w1).1
    refine hrun.2 x ⟨x0, x1⟩ v G' H' e ⟨f2.ex, e, fun b o hb hm => f2.keep b o hb (by rw [hfp] at hm; exact hm), f2.trk, f2.new, fun q' hq' => ?_, fun q' hq' => ?_, fun q' hq' => ?_, Nat.le_refl 1, f.st, f2.cl, f2.tu⟩ dv
    · obtain rfl := List.mem_singleton.mp hq'
      refine ⟨(hC (lv + 1) H').mpr ⟨_, w2, pi⟩, fun b hb => ⟨?_, hb⟩⟩
      have hb2 : b ∈ F.fp := hb
      rw [hfp] at hb2
      have : b = F.p := by simpa using hb2
      subst this
      exact bx.1
    · obtain rfl := List.mem_singleton.mp hq'
      exact f.opH (F.op lv) (List.mem_singleton.mpr rfl)
    · obtain rfl := List.mem_singleton.mp hq'
      exact hF.1 _
end
/-! ### the law's own body: it makes the deck, then the rest -/
abbrev Pix.draI {K : PySem.W.Frag} {ns : List Int} (i : Pix K ns) : PoC := ⟨fun q => ∃ F n, DrawF F ∧ q = F.op n, i.1.2, False⟩
abbrev Pix.draF {K : PySem.W.Frag} {ns : List Int} (i : Pix K ns) : FaC := ⟨DrawF⟩
theorem Pix.W {K : PySem.W.Frag} {ns : List Int} (hn : ns.length ≤ 63) (i : Pix K ns) : @DrawP i.draF K := fun _ h => h
theorem law_bodyW {c : Nat} {K : PySem.W.Frag} (hL : NoL K) (hc : c ≤ nMax) {N : List Str} {k : Nat} {te : TE} {ml : Env → W (List PyData)} {ns : List Int} {tr : Pix K ns → TS} {ms : Ms} (hN : N.length = 2 + k) (h1 : @TJL inst0 K te ml) (h2 : ∀ i : Pix K ns, @TJSN i.draI i.draF c K (tr i) ms)
    {a : Addr} {H : Hp} {Q : VK} (hS : SqL K H a (ns.map V.int) ∧ NoTp H) (q : ∀ H', Q (.bl true) H')
    (p1 : (ml (.imm (.list (ns.map PyData.int)) :: List.replicate (k + 1) .any)).run fun ds => ∃ is : List Int, ds = is.map PyData.int ∧ WInv 0 is)
    (p2 : (ms ([.imm (.list (ns.map PyData.int)), .opq 0] ++ List.replicate k .any)).run fun r => r.1 = .rt (.im (.bool true))) :
    (tSeq (tAsg te (gName 1)) fun D σ H => ∃ i, tr i D σ H) { nx := fun _ H' => Q .non H', rt := Q } (start N [.ref a]) H := by
  obtain ⟨G, eG, nG, sG, cG⟩ := only_of hL hS.1
  have dG : Dp K G (.ref a) (.list (ns.map PyData.int)) := .lst sG (dp_nums (K := K) ns)
  letI := inst0
  have f0 : Fra (bas G H [] []) G H := ⟨eG, Ex.refl _, fun _ _ e _ => e, fun _ e => e, fun _ _ e => e, fun q hq => (by cases hq), fun q hq => (by cases hq), fun q hq => (by cases hq), Nat.zero_le _, fun _ _ h => (by cases h), cG, fun b xs e => (hS.2 b xs e).elim⟩
  have eN : N.length - 1 = k + 1 := by omega
  have est : start N [.ref a] = some (.ref a) :: List.replicate (k + 1) none := by unfold L2.start; simp [eN]
  have ok0 : ROk K (bas G H [] []) G (.imm (.list (ns.map PyData.int)) :: List.replicate (k + 1) .any) (start N [.ref a]) H := by
    refine ⟨f0, by rw [est]; simp, fun i => ?_⟩
    rw [est]
    match i with
    | 0 => exact ⟨_, rfl, dG⟩
    | i + 1 =>
      have e4 : gt (.imm (.list (ns.map PyData.int)) :: List.replicate (k + 1) .any) (i + 1) = .any := by show (List.replicate (k + 1) Sl.any).getD i .any = .any; exact getD_rep
      rw [e4]; exact trivial
  refine h1 _ G _ _ H ok0 _ ((ml _).mono (fun ds k1 p vs G1 H1 e1 f1 hp0 hg1 hp1 dv => ?_) p1)
  obtain ⟨is, rfl, hi⟩ := k1
  have nums : ∀ {vs : List V} {is : List Int}, DpAll K G1 vs (is.map PyData.int) → vs = is.map V.int := by
    intro vs is
    induction is generalizing vs with
    | nil => intro h; cases h; rfl
    | cons i r ih => intro h; cases h with | cons a b => cases a; rw [ih b]; rfl
  have er := nums dv
  subst er
  have ex1 : Ex G1 H1 := f1.ex
  have c1 : NFz G1 := f1.cl
  have t1 := f1.tu
  let i : Pix K ns := ⟨(a, G), sG⟩
  refine ⟨i, ?_⟩
  letI := i.draI
  letI := i.draF
  let FF : Fam := ⟨p, [p], fun n H => ∃ zs : List Int, H p = some (.lst (zs.map V.int)) ∧ WInv n zs, fun n H H' h => by rw [h p (by simp)]; exact id, fun n H ⟨_, h, _⟩ b hb => by
    have : b = p := by simpa using hb
    subst this
    rw [h]; simp, fun n c H ⟨zs, h1, h2⟩ => ⟨zs, h1, h2.up c⟩⟩
  have hFF : DrawF FF := ⟨rfl, fun _ _ => Iff.rfl⟩
  let qq : Opq := FF.op 0
  have fB : Fra (bas G1 H1 [p] [qq]) G1 H1 := by
    refine ⟨ex1, Ex.refl _, fun _ _ e _ => e, fun _ e => e, fun _ _ e => e, fun q hq => ?_, fun q hq => ?_, fun q hq => ?_, Nat.le_refl _, e1, c1, t1⟩
    · have : q = qq := by simpa using hq
      subst this
      exact ⟨⟨is, hp1, hi⟩, fun b hb => by
        have : b = p := by simpa [qq, Fam.op, FF] using hb
        subst this
        exact ⟨hg1, by simp⟩⟩
    · have : q = qq := by simpa using hq
      subst this
      intro b hb
      have : b = p := by simpa [qq, Fam.op, FF] using hb
      subst this
      show H1 _ ≠ none
      rw [hp1]; exact fun z => by cases z
    · have : q = qq := by simpa using hq
      subst this
      exact ⟨FF, 0, hFF, rfl⟩
  have okB : Ok K (bas G1 H1 [p] [qq]) G1 (List.replicate (2 + k) none) ([.imm (.list (ns.map PyData.int)), .opq 0] ++ List.replicate k .any) ((start N [.ref a]).set 1 (some (.ref p))) H1 := by
    rw [est]
    have es : (some (V.ref a) :: List.replicate (k + 1) (none : Option V)).set 1 (some (.ref p)) = some (.ref a) :: some (.ref p) :: List.replicate k none := by simp [List.replicate_succ]
    rw [es]
    refine ⟨fB, by simp, by simp; omega, fun j => ?_, fun i j b hi _ => ?_⟩
    · have e3 : fg (List.replicate (2 + k) none) j = none := getD_rep
      rw [e3]
      match j with
      | 0 => exact ⟨rfl, _, rfl, dp_ex e1 dG⟩
      | 1 => exact ⟨rfl, qq, rfl, rfl⟩
      | j + 2 =>
        have e4 : gt ([.imm (.list (ns.map PyData.int)), .opq 0] ++ List.replicate k .any) (j + 2) = .any := by show (List.replicate k Sl.any).getD j .any = .any; exact getD_rep
        rw [e4]; exact rfl
    · have e3 : fg (List.replicate (2 + k) none) i = none := getD_rep
      rw [e3] at hi; cases hi
  have hFP : FamP FF := ⟨fun n => ⟨FF, n, hFF, rfl⟩, hFF⟩
  refine h2 i FF hFP (bas G1 H1 [p] []) G1 _ _ _ H1 0 (by omega) okB rfl _ ((ms _).mono (fun r k2 G' fps' σ' H' e ok' => ?_) p2)
  rw [k2]
  intro v dv
  cases dv
  exact q H'
end Z
namespace Z
open PySem PySem.Spec PyProof.Rows L2
/-! ### a law's script, of which each number is below a bound of bits -/
def spLawB (K : PySem.W.Frag) : Sp := fun vs H Q _ => ∃ (a : Addr) (ns : List Int), vs = [.ref a] ∧ (SqL K H a (ns.map V.int) ∧ NoTp H) ∧ ns.length ≤ 63 ∧ (∀ z ∈ ns, Builtin.Int.intBits z ≤ 1048576) ∧ ∀ H', Q (.bl true) H'
theorem walk_ofKB {l : PySem.W.OpenLaw} {n k : Nat} {q : Program} {loose : List Str} {XP : (Str → Option Value) → Heap → Prop} {YP : World → Heap → Prop} {d : DefRec} {K : Params → PySem.W.Frag} {CX : CXT} {sp : PySem.W.Frag → Sp} {x : Str}
    (hn : l.most = some n) (hn2 : n ≤ sizeLine) (hdf : d.params.defaults = []) (hr : Room k callerA)
    (hY : ∀ (w : World) (h : Heap), YP w h → (K w.params).In h)
    (F : ∀ (w : World) (mg : Str → Option Value) (fa : Addr) (h : Heap), (K w.params).In h → h.Ns mainGlobals mg → mg d.name = some (.ref fa) →
      ∃ fd : FuncData, (∀ (s : Shared) (u : Value), BindsTo s fd ⟨[u], []⟩ [(x, u)]) ∧
        ∀ base : Heap, (K w.params).In base → base.Ns mainGlobals mg → FnOk l.prog w (K w.params) mg base CX k fa fd [x] (sp (K w.params)))
    (hsp : ∀ (K : PySem.W.Frag) (H : Hp) (a : Addr) (ns : List Int), ns.length ≤ n → (∀ z ∈ ns, Builtin.Int.intBits z ≤ 1048576) → Only H → SqL K H a (ns.map V.int) → sp K [.ref a] H (fun v _ => v = .bl true) fun _ _ _ => False)
    (hCX : ∀ (H : Hp) (s : Shared) (e : Value) (s' : Shared), CX [] H s (fun _ _ _ => False) e s' → False) :
    PySem.W.WalkO q loose XP YP l.row.toRowW d [] (fun f vs => PySem.call f vs) :=
  walk_ofB (K := K) (CX := fun _ => CX) (sp := fun w => sp (K w.params)) hn hn2 hdf hr hY F (fun w H a ns h1 h0 h2 h3 => hsp (K w.params) H a ns h1 h0 h2 h3) fun _ H s e s' => hCX H s e s'
abbrev fShlW := fI CShl fun i j => .int (i * 2 ^ j.toNat)
section
variable [PoC] {K : PySem.W.Frag}
theorem oj_shlW : OJ K (rI CShl fun i j => .int (i * 2 ^ j.toNat)) fShlW := oj_I fun _ _ _ => .int _
end
end Z
namespace Z
open PySem PySem.Spec PyProof.Rows L2
open Evl (Ex fresh_back)
/-! ### xs.insert(i, y); xs.pop(i) alone; an item of a box -/
def rInsZ : V → List V → Hp → VK → Prop := fun x vs H Q =>
  ∃ (l : Addr) (xs : List V) (i : Int) (y : V), x = .ref l ∧ vs = [.int i, y] ∧
    H l = some (.lst xs) ∧ xs.length < sizeLine ∧ 0 ≤ i ∧ i < 2 ^ 63 ∧
    Q .non (upd H l (.lst (xs.take i.toNat ++ [y] ++ xs.drop i.toNat)))
theorem mt_insZ {X : Cx} : MtR X "list.insert" rInsZ := L2.mt_insert
section
variable [PoC] {M : Ba → Prop} {K : PySem.W.Frag} {te ti : TE} {m mi : Env → W PyData}
def sIns (i : Nat) (mi m : Env → W PyData) : Ms := fun env => do
  let ds ← asL (gt env i)
  let z ← mi env
  let d ← m env
  match z with
  | .int k => do W.need (0 ≤ k ∧ k < 2 ^ 63 ∧ ds.length < sizeLine); pure (.nx, env.set i (.lst (ds.take k.toNat ++ [d] ++ ds.drop k.toNat)))
  | _ => W.fail
theorem tjs_ins {i : Nat} (hi : TJ K ti mi) (h : TJ K te m) : TJS M K (tDrop (tBM K "list" rInsZ (tVar i) (tCons ti (tCons te tNil)))) (sIns i mi m) := fun B G fps env σ H ok hm D q => by
  obtain ⟨ds, hg, q⟩ := asL_run q
  obtain ⟨p, vs, h1, h2, h3, h4, h5⟩ := ok.lstAt hg
  refine ⟨_, sg_some h2, tyV_lst h4, ok.ev hi ((mi env).mono (fun z k1 v1 G1 H1 e1 ok1 d1 => ?_) q)⟩
  refine ok1.ev h ((m env).mono (fun d k2 v2 G2 H2 e2 ok2 d2 => ?_) k1)
  obtain ⟨p', vs', h1', h2', h3', h4', h5'⟩ := ok2.lstAt hg
  rw [h1] at h1'
  cases h1'
  cases z with
  | int k =>
    cases d1
    obtain ⟨⟨k0, k1, k3⟩, k4⟩ := k2
    exact ⟨p, vs', k, v2, rfl, rfl, h4', by rw [dpa_len h5']; exact k3, k0, k1, k4 G2 fps σ _ (e1.trans e2) (ok2.wrB h1 ⟨p, _, rfl, rfl, h3', upd_same, dpa_app (dpa_app (dpa_take _ h5') (.cons d2 .nil)) (dpa_drop _ h5')⟩)⟩
  | _ => exact k2.elim
def sPopD (i : Nat) (m : Env → W PyData) : Ms := fun env => do
  let ds ← asL (gt env i)
  match ← m env with
  | .int k => do W.need (0 ≤ k ∧ k < 2 ^ 63 ∧ k.toNat < ds.length); pure (.nx, env.set i (.lst (ds.eraseIdx k.toNat)))
  | _ => W.fail
theorem tjs_popD {i : Nat} (h : TJ K te m) : TJS M K (tDrop (tBM K "list" rPopAt (tVar i) (tCons te tNil))) (sPopD i m) := fun B G fps env σ H ok hm D q => by
  obtain ⟨ds, hg, q⟩ := asL_run q
  obtain ⟨p, vs, h1, h2, h3, h4, h5⟩ := ok.lstAt hg
  refine ⟨_, sg_some h2, tyV_lst h4, ok.ev h ((m env).mono (fun d k v G' H' e ok' dv => ?_) q)⟩
  obtain ⟨p', vs', h1', h2', h3', h4', h5'⟩ := ok'.lstAt hg
  rw [h1] at h1'
  cases h1'
  cases d with
  | int x =>
    cases dv
    obtain ⟨⟨k0, k1, k3⟩, k4⟩ := k
    have hl : x.toNat < vs'.length := by rw [dpa_len h5']; exact k3
    exact ⟨p, vs', x, x.toNat, vs'[x.toNat], rfl, rfl, h4', by omega, k1, seqIx k0 hl, List.getElem?_eq_getElem hl, k4 G' _ _ _ e (ok'.wrB h1 (s := .lst (ds.eraseIdx x.toNat)) ⟨p, _, rfl, rfl, h3', upd_same, dpa_erase _ h5'⟩)⟩
  | _ => exact k.elim
def mIxB (i : Nat) (mi : Env → W PyData) : Env → W PyData := fun env => do
  let ds ← asL (gt env i)
  match ← mi env with
  | .int k => asSome (atI ds k)
  | _ => W.fail
theorem tj_ixB {i : Nat} (hi : TJ K ti mi) : TJ K (tOp (rIx K) (tVar i) ti) (mIxB i mi) := fun B G env σ H ok Q q => by
  obtain ⟨ds, hg, q⟩ := asL_run q
  have s := ok.sl i
  rw [hg] at s
  obtain ⟨p, vs, h1, h2, h3, h4, h5⟩ := s
  refine ⟨_, sg_some h1, hi B G env σ H ok _ ((mi env).mono (fun z k1 v1 G1 H1 e1 f1 d1 => ?_) q)⟩
  cases z with
  | int k =>
    cases d1
    cases e : atI ds k with
    | none => simp only [e, asSome, run_fail] at k1
    | some d =>
      simp only [e, asSome, run_pure] at k1
      obtain ⟨v, g1, g2⟩ := atI_dpa h5 e
      exact .inl ⟨p, vs, k, v, rfl, rfl, .inl (.inl (f1.keep p _ h3 h2)), g1, k1 v G1 H1 e1 f1 (dp_ex f1.old g2)⟩
  | _ => exact k1.elim
/-- x + a new list -/
def mCatB (i : Nat) (mb : Env → W PyData) : Env → W (List PyData) := fun env => do
  let ds ← asL (gt env i)
  match ← mb env with
  | .list es => do W.need (ds.length + es.length ≤ sizeLine); pure (ds ++ es)
  | _ => W.fail
theorem tjl_catB {i : Nat} (h : TJ K te m) : TJL K (tOp (rAddZ K) (tVar i) te) (mCatB i m) := fun B G env σ H ok Q q => by
  obtain ⟨ds, hg, q⟩ := asL_run q
  have s := ok.sl i
  rw [hg] at s
  obtain ⟨p, vs, h1, h2, h3, h4, h5⟩ := s
  refine ⟨_, sg_some h1, h B G env σ H ok _ ((m env).mono (fun z k1 u G1 H1 e1 f1 d1 => ?_) q)⟩
  cases z with
  | list es =>
    obtain ⟨p', ws, rfl, g1, g2⟩ := dp_lst d1
    exact .inr (.inr (.inr ⟨p, p', vs, ws, rfl, rfl, .inl (.inl (f1.keep p _ h3 h2)), ex_l f1.ex g1, by rw [dpa_len h5, dpa_len g2]; exact k1.1, fun t ht =>
      k1.2 t _ G1 _ e1 (f1.lay ht) (f1.free ht) (fresh_back f1.ex ht) upd_same (dpa_app (dpa_ex f1.old h5) g2)⟩))
  | _ => exact k1.elim
end
section
variable {i : Nat} {e : Env} {m mi : Env → W PyData}
@[simp] theorem r_sIns {Q : Fl × Env → Prop} : (sIns i mi m e).run Q = (asL (gt e i)).run fun ds => (mi e).run fun z => (m e).run fun d => onInt z fun k => (0 ≤ k ∧ k < 2 ^ 63 ∧ ds.length < sizeLine) ∧ Q (.nx, e.set i (.lst (ds.take k.toNat ++ [d] ++ ds.drop k.toNat))) := by
  unfold sIns
  simp only [run_bind]
  congr 1; funext ds; congr 1; funext z; congr 1; funext d
  cases z <;> rfl
@[simp] theorem r_sPopD {Q : Fl × Env → Prop} : (sPopD i m e).run Q = (asL (gt e i)).run fun ds => (m e).run fun z => onInt z fun k => (0 ≤ k ∧ k < 2 ^ 63 ∧ k.toNat < ds.length) ∧ Q (.nx, e.set i (.lst (ds.eraseIdx k.toNat))) := by
  unfold sPopD
  simp only [run_bind]
  congr 1; funext ds; congr 1; funext z
  cases z <;> rfl
def onList (d : PyData) (P : List PyData → Prop) : Prop := match d with
  | .list es => P es
  | _ => False
@[simp] theorem onList_l (es : List PyData) (P : List PyData → Prop) : onList (.list es) P = P es := rfl
@[simp] theorem r_mCatB {Q : List PyData → Prop} : (mCatB i m e).run Q = (asL (gt e i)).run fun ds => (m e).run fun z => onList z fun es => (ds.length + es.length ≤ sizeLine) ∧ Q (ds ++ es) := by
  unfold mCatB
  simp only [run_bind]
  congr 1; funext ds; congr 1; funext z
  cases z <;> rfl
@[simp] theorem r_mIxB {Q : PyData → Prop} : (mIxB i mi e).run Q = (asL (gt e i)).run fun ds => (mi e).run fun z => onInt z fun k => onSome (L2.atI ds k) Q := by
  unfold mIxB
  simp only [run_bind]
  congr 1; funext ds; congr 1; funext z
  cases z with
  | int k =>
    show (asSome (atI ds k)).run Q = onSome (L2.atI ds k) Q
    cases atI ds k <;> rfl
  | _ => rfl
end
end Z
namespace Z
open PySem PySem.Spec PyProof.Rows L2
open Evl (Ex fresh_back)
/-! ### while, with draws in its body -/
def sWhileN (kl : List Nat) (mc : Env → W Bool) (mb : Ms) : Ms := fun env => W.exi fun n => do W.need (n ≤ turns); whileM kl mc mb n (killE kl env)
theorem tjsn_while [PoC] [FaC] {K : PySem.W.Frag} {c : Nat} {tc : TT} {mc : Env → W Bool} {tb : TS} {mb : Ms} {kl : List Nat} (hc : TJT K tc mc) (hb : TJSN c K tb mb) : TJSN (turns * c) K (tWhile tc tb) (sWhileN kl mc mb) := fun F hF B G fps env σ H k hn ok hm D q => by
  obtain ⟨n, hle, q⟩ := q
  have hle' : n ≤ turns := hle
  obtain ⟨fps0, ok0⟩ := ok.kills kl
  have up : ∀ m, m ≤ turns → k + (turns - m) * c ≤ k + turns * c := fun m hm => by
    have := Nat.mul_le_mul_right c (Nat.sub_le turns m)
    omega
  refine ⟨fun m σ H => m ≤ turns ∧ ∃ Gi fpi ei, Ex G Gi ∧ Ok K (B.wth F (k + (turns - m) * c)) Gi fpi ei σ H ∧ (whileM kl mc mb m ei).run fun r => ∀ G' fps' σ' H', Ex G G' → Ok K (B.wth F (k + turns * c)) G' fps' r.2 σ' H' → FlOk K B D r.1 G' σ' H',
    ⟨n, hle', G, fps0, _, Ex.refl _, ok0.to hF (Nat.le_add_right _ _), q⟩, ?_⟩
  rintro m σ2 H2 ⟨hmt, Gi, fpi, ei, eGi, oki, hrun⟩
  cases m with
  | zero => exact hrun.elim
  | succ m =>
    have hstep : (turns - (m + 1)) * c + c = (turns - m) * c := by
      rw [show turns - m = (turns - (m + 1)) + 1 by omega, Nat.succ_mul]
    have hu := up m (by omega)
    have hu1 := up (m + 1) hmt
    refine oki.evT hc (W.mono _ (fun b q1 G3 H3 e3 ok3 => ?_) hrun)
    cases b with
    | false => exact q1 G3 fpi σ2 H3 (eGi.trans e3) (ok3.to hF hu1)
    | true =>
      refine ⟨fun σ' H' => m ≤ turns ∧ ∃ Gi fpi ei, Ex G Gi ∧ Ok K (B.wth F (k + (turns - m) * c)) Gi fpi ei σ' H' ∧ (whileM kl mc mb m ei).run fun r => ∀ G' fps' σ' H', Ex G G' → Ok K (B.wth F (k + turns * c)) G' fps' r.2 σ' H' → FlOk K B D r.1 G' σ' H', fun σ' H' h => ⟨m, Nat.lt_succ_self _, h⟩, ?_⟩
      refine hb F hF B G3 fpi ei σ2 H3 _ (by omega) ok3 hm _ (W.mono _ (fun r q3 G5 fp5 σ5 H5 e5 ok5 => ?_) q1)
      obtain ⟨fl, e6⟩ := r
      obtain ⟨fp6, ok6⟩ := ok5.kills kl
      cases fl with
      | nx => exact ⟨by omega, G5, fp6, _, (eGi.trans e3).trans e5, ok6.to hF (by omega), q3⟩
      | ct => exact ⟨by omega, G5, fp6, _, (eGi.trans e3).trans e5, ok6.to hF (by omega), q3⟩
      | bk => exact q3 G5 fp6 σ5 H5 ((eGi.trans e3).trans e5) (ok6.to hF (by omega))
      | rt v => exact q3 G5 fp5 σ5 H5 ((eGi.trans e3).trans e5) (ok5.to hF (by omega))
theorem tjsn_popD [PoC] [FaC] {K : PySem.W.Frag} {c : Nat} {te : TE} {m : Env → W PyData} {i : Nat} (h : TJN c K te m) : TJSN c K (tDrop (tBM K "list" rPopAt (tVar i) (tCons te tNil))) (sPopD i m) := fun F hF B G fps env σ H n hn ok hm D q => by
  obtain ⟨ds, hg, q⟩ := asL_run q
  obtain ⟨p, vs, h1, h2, h3, h4, h5⟩ := ok.lstAt hg
  refine ⟨_, sg_some h2, tyV_lst h4, ok.evN hF hn h ((m env).mono (fun d k v G' H' e ok' dv => ?_) q)⟩
  obtain ⟨p', vs', h1', h2', h3', h4', h5'⟩ := ok'.lstAt hg
  rw [h1] at h1'
  cases h1'
  cases d with
  | int x =>
    cases dv
    obtain ⟨⟨k0, k1, k3⟩, k4⟩ := k
    have hl : x.toNat < vs'.length := by rw [dpa_len h5']; exact k3
    exact ⟨p, vs', x, x.toNat, vs'[x.toNat], rfl, rfl, h4', by omega, k1, seqIx k0 hl, List.getElem?_eq_getElem hl, k4 G' _ _ _ e (ok'.wrB h1 (s := .lst (ds.eraseIdx x.toNat)) ⟨p, _, rfl, rfl, h3', upd_same, dpa_erase _ h5'⟩)⟩
  | _ => exact k.elim
theorem while_sN {kl : List Nat} {mc : Env → W Bool} {mb : Ms} {e : Env} {Q : Fl × Env → Prop} (n : Nat) (hn : n ≤ turns) (h : (whileM kl mc mb n (killE kl e)).run Q) : (sWhileN kl mc mb e).run Q := ⟨n, hn, h⟩
end Z
namespace Law
open PySem Z
abbrev c_law_draw : Nat := 1
def lb_law_deck_1 : Ms := (sIf (mBool (m2 fGe (mCB fAbs (mCons (mVar 3) mNil)) (m2 fPow (mC (.int 10)) (mC (.int 18))))) (sAsg 1 (m2 fAdd (m2 fShlW (mVar 1) (mC (.int 205))) (mCB fAbs (mCons (mVar 3) mNil)))) (sAsg 2 (m2 fMod (m2 fAdd (m2 fMul (mVar 2) (mC (.int 43))) (mVar 3)) (mC (.int 1999999871)))))
@[simp] theorem lb_law_deck_1_r (e : Z.Env) (Q : Fl × Z.Env → Prop) : (lb_law_deck_1 e).run Q = (((sIf (mBool (m2 fGe (mCB fAbs (mCons (mVar 3) mNil)) (m2 fPow (mC (.int 10)) (mC (.int 18))))) (sAsg 1 (m2 fAdd (m2 fShlW (mVar 1) (mC (.int 205))) (mCB fAbs (mCons (mVar 3) mNil)))) (sAsg 2 (m2 fMod (m2 fAdd (m2 fMul (mVar 2) (mC (.int 43))) (mVar 3)) (mC (.int 1999999871)))))) e).run Q := rfl
def ms_law_deck : Ms := (sSeq (sAsg 1 (mC (.int 0)))
    (sSeq (sAsg 2 (m2 fAdd (m2 fMul (mC (.int 17)) (mCB fLen (mCons (mVar 0) mNil))) (mC (.int 11))))
    (sSeq (sFor [3] (mSeqI (mSl (mVar 0) mNoPart (mPart (mC (.int 63))))) (nName 3) lb_law_deck_1)
    (sRetL (mLst (mCons (mVar 1) (mCons (mVar 2) (mCons (mC (.int 0)) mNil))))))))
def m_law_deck : List Sl → W Rv := mFn 3 ms_law_deck
def ms_law_draw : Ms := (sSeq (sSetP 2 (mLend (m2 fAdd (m2 fIx (mVar 0) (mC (.int 2))) (mC (.int 1)))))
    (sSeq (sIf (mLendT (mBool (m2 fGt (m2 fIx (mVar 0) (mC (.int 0))) (mC (.int 0))))) (sSeq (sAsg 2 (mLend (m2 fMod (m2 fIx (mVar 0) (mC (.int 0))) (mVar 1))))
    (sSeq (sSetP 0 (mLend (m2 fDiv (m2 fIx (mVar 0) (mC (.int 0))) (mVar 1))))
    (sRet (mVar 2)))) sNil)
    (sSeq (sAsg 3 (mLend (m2 fIx (mVar 0) (mC (.int 2)))))
    (sSeq (sAsg 4 (mLend (m2 fMod (m2 fAdd (m2 fAdd (m2 fIx (mVar 0) (mC (.int 1))) (m2 fMul (m2 fMul (mC (.int 70003)) (mVar 3)) (mVar 3))) (m2 fMul (mC (.int 5003)) (mVar 3))) (mC (.int 2147483543)))))
    (sSeq (sAsg 4 (m2 fMod (m2 fMul (mVar 4) (mVar 4)) (mC (.int 2147483497))))
    (sRet (m2 fMod (m2 fDiv (m2 fMod (m2 fAdd (m2 fMul (mVar 4) (mC (.int 38333))) (m2 fMul (mVar 3) (mC (.int 67)))) (mC (.int 2147483477))) (mC (.int 13))) (mVar 1))))))))
abbrev m_law_draw := mNext
def c_law_names : Nat := (0 + (0 + ((0 + c_law_draw) + ((0 + (0 + turns * (0 + (0 + (0 + c_law_draw))))) + (0 + (((0 + c_law_draw) + 0) + ((0 + c_law_draw) + (0 + (0 + (0 + turns * (0 + c_law_draw)))))))))))
def lb_law_names_1 : Ms := (sSeq (sAsg 9 (m2 fIx (mVar 2) (m2 fMod (m2 fAdd (mVar 4) (mVar 8)) (mC (.int 26)))))
    (sApp 3 (m2 fIx (mFrz (mLst (mCons (m2 fAdd (mVar 9) (m2 fMulS (mC (.str "q")) (m2 fAdd (mC (.int 1)) (m2 fMod (mVar 8) (mC (.int 7)))))) (mCons (m2 fAdd (m2 fAdd (mSl (mVar 5) mNoPart (mPart (mVar 6))) (mVar 9)) (mSl (mVar 5) (mPart (mVar 6)) (mPart (m2 fMod (mVar 4) (mC (.int 8)))))) mNil)))) (mVar 7))))
@[simp] theorem lb_law_names_1_r (e : Z.Env) (Q : Fl × Z.Env → Prop) : (lb_law_names_1 e).run Q = (((sSeq (sAsg 9 (m2 fIx (mVar 2) (m2 fMod (m2 fAdd (mVar 4) (mVar 8)) (mC (.int 26)))))
    (sApp 3 (m2 fIx (mFrz (mLst (mCons (m2 fAdd (mVar 9) (m2 fMulS (mC (.str "q")) (m2 fAdd (mC (.int 1)) (m2 fMod (mVar 8) (mC (.int 7)))))) (mCons (m2 fAdd (m2 fAdd (mSl (mVar 5) mNoPart (mPart (mVar 6))) (mVar 9)) (mSl (mVar 5) (mPart (mVar 6)) (mPart (m2 fMod (mVar 4) (mC (.int 8)))))) mNil)))) (mVar 7))))) e).run Q := rfl
def ms_law_names : Ms := (sSeq (sAsg 2 (mC (.str "abcdefghijklmnopqrstuvwxyz")))
    (sSeq (sAsgL 3 (mLst (mCons (mC (.str "a")) (mCons (mC (.str "b")) (mCons (mC (.str "ab")) (mCons (mC (.str "ba")) (mCons (mC (.str "sets")) (mCons (mC (.str "put")) (mCons (mC (.str "take")) (mCons (mC (.str "core")) (mCons (mC (.str "way")) (mCons (mC (.str "row")) (mCons (mC (.str "none")) (mCons (mC (.str "near")) mNil))))))))))))))
    (sSeq (sAsg 4 (mCall 2 m_law_draw (aOpq 0 (aCons (mC (.int 26)) aNil))))
    (sSeq (sAsg 5 (mJoin (mC (.str "")) (mFrz (mLc [8] (mRng rng1 (mCons (mC (.int 6)) mNil)) (nName 8) mYes (m2 fIx (mVar 2) (mCall 2 m_law_draw (aOpq 0 (aCons (mC (.int 26)) aNil))))))))
    (sSeq (sAsg 5 (m2 fAdd (mVar 5) (m2 fIx (mVar 2) (mVar 4))))
    (sSeq (sAsg 6 (m2 fAdd (mCall 2 m_law_draw (aOpq 0 (aCons (mC (.int 7)) aNil))) (m2 fMod (mVar 4) (mC (.int 2)))))
    (sSeq (sAsg 7 (mCall 2 m_law_draw (aOpq 0 (aCons (mC (.int 2)) aNil))))
    (sSeq (sAsgL 3 (mLendL (mSlL (mVar 3) (mPart (m2 fMul (mC (.int 12)) (mVar 7))) mNoPart)))
    (sSeq (sFor [8, 9] (mRng rng1 (mCons (mC (.int 12)) mNil)) (nName 8) lb_law_names_1)
    (sRetLM (mLcM 8 (mRng rng1 (mCons (mVar 1) mNil)) (mPopAt 3 (mLend (mCall 2 m_law_draw (aOpq 0 (aCons (mCB fLen (mCons (mVar 3) mNil)) aNil))))))))))))))))
def m_law_names : List Sl → W Rv := mFn 8 ms_law_names
def c_law_sets : Nat := ((((0 + (0 + c_law_draw)) + 0) + c_law_names) + ((0 + c_law_draw) + ((0 + turns * (((0 + c_law_draw) + 0) + 0)) + ((0 + (0 + c_law_draw)) + (0 + ((((((0 + c_law_draw) + 0) + (((0 + c_law_draw) + 0) + 0)) + 0) + turns * ((0 + turns * (((0 + c_law_draw) + 0) + 0)) + (0 + ((0 + (((0 + (0 + c_law_draw)) + ((0 + (0 + c_law_draw)) + 0)) + 0)) + ((0 + ((0 + (0 + (0 + c_law_draw))) + 0)) + 0))))) + 0))))))
def lb_law_sets_1 : Ms := (sSeq (sAsg 9 (mFrz (mLc [10] (mSeqI (mVar 3)) (nName 10) (mBool (m2 fEq (mCall 2 m_law_draw (aOpq 0 (aCons (m2 fIx (mFrz (mLst (mCons (mC (.int 2)) (mCons (mC (.int 4)) (mCons (mC (.int 9)) (mCons (mC (.int 9)) (mCons (mC (.int 9)) mNil))))))) (mVar 4)) aNil))) (mC (.int 0)))) (mVar 10))))
    (sSeq (sIf (mBool (m2 fEq (mVar 4) (mC (.int 2)))) (sAsg 9 (m2 fAdd (m2 fAdd (mVar 5) (mSl (mVar 9) mNoPart (mPart (mC (.int 1))))) (mFrz (mLc [11, 10] (mEnum (mCons (mVar 3) mNil)) (nTup 2 (nCons (nName 11) (nCons (nName 10) nNil))) (mBool (m2 fEq (m2 fMod (mVar 11) (mVar 6)) (m2 fMod (mVar 8) (mVar 6)))) (mVar 10))))) sNil)
    (sSeq (sIf (mBool (m2 fEq (mVar 4) (mC (.int 3)))) (sAsg 9 (mFrz (mLst (mCons (m2 fIx (mVar 3) (mCall 2 m_law_draw (aOpq 0 (aCons (mCB fLen (mCons (mVar 3) mNil)) aNil)))) (mCons (m2 fIx (mVar 3) (mCall 2 m_law_draw (aOpq 0 (aCons (mCB fLen (mCons (mVar 3) mNil)) aNil)))) mNil))))) sNil)
    (sSeq (sIf (mBool (m2 fEq (mVar 4) (mC (.int 4)))) (sAsg 9 (mSl (mVar 3) mNoPart (mPart (mCall 2 m_law_draw (aOpq 0 (aCons (m2 fAdd (mCB fLen (mCons (mVar 3) mNil)) (mC (.int 1))) aNil)))))) sNil)
    (sApp 7 (mCB fTupOf (mCons (mFrz (mCBL fSorted (mCons (mSl (mFrz (mCBL fSortSet (mCons (mVar 9) mNil))) mNoPart (mPart (mC (.int 6)))) mNil))) mNil)))))))
@[simp] theorem lb_law_sets_1_r (e : Z.Env) (Q : Fl × Z.Env → Prop) : (lb_law_sets_1 e).run Q = (((sSeq (sAsg 9 (mFrz (mLc [10] (mSeqI (mVar 3)) (nName 10) (mBool (m2 fEq (mCall 2 m_law_draw (aOpq 0 (aCons (m2 fIx (mFrz (mLst (mCons (mC (.int 2)) (mCons (mC (.int 4)) (mCons (mC (.int 9)) (mCons (mC (.int 9)) (mCons (mC (.int 9)) mNil))))))) (mVar 4)) aNil))) (mC (.int 0)))) (mVar 10))))
    (sSeq (sIf (mBool (m2 fEq (mVar 4) (mC (.int 2)))) (sAsg 9 (m2 fAdd (m2 fAdd (mVar 5) (mSl (mVar 9) mNoPart (mPart (mC (.int 1))))) (mFrz (mLc [11, 10] (mEnum (mCons (mVar 3) mNil)) (nTup 2 (nCons (nName 11) (nCons (nName 10) nNil))) (mBool (m2 fEq (m2 fMod (mVar 11) (mVar 6)) (m2 fMod (mVar 8) (mVar 6)))) (mVar 10))))) sNil)
    (sSeq (sIf (mBool (m2 fEq (mVar 4) (mC (.int 3)))) (sAsg 9 (mFrz (mLst (mCons (m2 fIx (mVar 3) (mCall 2 m_law_draw (aOpq 0 (aCons (mCB fLen (mCons (mVar 3) mNil)) aNil)))) (mCons (m2 fIx (mVar 3) (mCall 2 m_law_draw (aOpq 0 (aCons (mCB fLen (mCons (mVar 3) mNil)) aNil)))) mNil))))) sNil)
    (sSeq (sIf (mBool (m2 fEq (mVar 4) (mC (.int 4)))) (sAsg 9 (mSl (mVar 3) mNoPart (mPart (mCall 2 m_law_draw (aOpq 0 (aCons (m2 fAdd (mCB fLen (mCons (mVar 3) mNil)) (mC (.int 1))) aNil)))))) sNil)
    (sApp 7 (mCB fTupOf (mCons (mFrz (mCBL fSorted (mCons (mSl (mFrz (mCBL fSortSet (mCons (mVar 9) mNil))) mNoPart (mPart (mC (.int 6)))) mNil))) mNil)))))))) e).run Q := rfl
def ms_law_sets : Ms := (sSeq (sAsg 3 (mCall 2 m_law_names (aOpq 0 (aCons (m2 fAdd (mC (.int 1)) (mCall 2 m_law_draw (aOpq 0 (aCons (mVar 2) aNil)))) aNil))))
    (sSeq (sAsg 4 (mCall 2 m_law_draw (aOpq 0 (aCons (mC (.int 5)) aNil))))
    (sSeq (sAsg 5 (mFrz (mLc [10] (mSeqI (mVar 3)) (nName 10) (mBool (m2 fEq (mCall 2 m_law_draw (aOpq 0 (aCons (mC (.int 3)) aNil))) (mC (.int 0)))) (mVar 10))))
    (sSeq (sAsg 6 (m2 fAdd (mC (.int 2)) (mCall 2 m_law_draw (aOpq 0 (aCons (mC (.int 5)) aNil)))))
    (sSeq (sAsgL 7 (mLst mNil))
    (sSeq (sForN [8, 9] (mRng rng1 (mCons (m2 fIx (mFrz (mLst (mCons (mCall 2 m_law_draw (aOpq 0 (aCons (m2 fAdd (mVar 1) (mC (.int 1))) aNil))) (mCons (mVar 1) mNil)))) (mCB fInt1 (mCons (m2 fEq (mCall 2 m_law_draw (aOpq 0 (aCons (mC (.int 3)) aNil))) (mC (.int 0))) mNil))) mNil)) (nName 8) lb_law_sets_1)
    (sFrz [7] (sRet (mCB fTupOf (mCons (mFrz (mCBL fSortSet (mCons (mVar 7) mNil))) mNil))))))))))
def m_law_sets : List Sl → W Rv := mFn 9 ms_law_sets
def ms_law_meet : Ms := (sRet (mCB fTupOf (mCons (mFrz (mLc [2] (mSeqI (mVar 0)) (nName 2) (mBool (m2 fIn (mVar 2) (mVar 1))) (mVar 2))) mNil)))
def m_law_meet : List Sl → W Rv := mFn 1 ms_law_meet
def lb_law_flowers_1 : Ms := (sSeq (sAsg 13 (mFrz (mLc [15] (mSeqI (m2 fIx (mVar 0) (mVar 12))) (nName 15) (mBool (m2 fNotIn (mVar 15) (mVar 6))) (mVar 15))))
    (sSeq (sAsg 14 (m2 fEq (m2 fAdd (mCB fLen (mCons (mVar 13) mNil)) (mCB fLen (mCons (mVar 6) mNil))) (mCB fLen (mCons (m2 fIx (mVar 0) (mVar 12)) mNil))))
    (sIf (mAnd (mTruth (mVar 14)) (mBool (m2 fEq (mFrz (mLc [15] (mSeqI (mVar 13)) (nName 15) (mBool (m2 fIn (mVar 15) (mVar 11))) (mVar 15))) (mFrz (mLst mNil))))) (sApp 9 (mTup (mCons (m2 fAdd (mVar 10) (mFrz (mLst (mCons (mVar 12) mNil)))) (mCons (m2 fAdd (mVar 11) (mVar 13)) mNil)))) sNil)))
@[simp] theorem lb_law_flowers_1_r (e : Z.Env) (Q : Fl × Z.Env → Prop) : (lb_law_flowers_1 e).run Q = (((sSeq (sAsg 13 (mFrz (mLc [15] (mSeqI (m2 fIx (mVar 0) (mVar 12))) (nName 15) (mBool (m2 fNotIn (mVar 15) (mVar 6))) (mVar 15))))
    (sSeq (sAsg 14 (m2 fEq (m2 fAdd (mCB fLen (mCons (mVar 13) mNil)) (mCB fLen (mCons (mVar 6) mNil))) (mCB fLen (mCons (m2 fIx (mVar 0) (mVar 12)) mNil))))
    (sIf (mAnd (mTruth (mVar 14)) (mBool (m2 fEq (mFrz (mLc [15] (mSeqI (mVar 13)) (nName 15) (mBool (m2 fIn (mVar 15) (mVar 11))) (mVar 15))) (mFrz (mLst mNil))))) (sApp 9 (mTup (mCons (m2 fAdd (mVar 10) (mFrz (mLst (mCons (mVar 12) mNil)))) (mCons (m2 fAdd (mVar 11) (mVar 13)) mNil)))) sNil)))) e).run Q := rfl
def lb_law_flowers_2 : Ms := (sFor [12, 13, 14] (mRng rng2 (mCons (m2 fAdd (m2 fIx (mVar 10) (m1 fNeg (mC (.int 1)))) (mC (.int 1))) (mCons (mCB fLen (mCons (mVar 0) mNil)) mNil))) (nName 12) lb_law_flowers_1)
@[simp] theorem lb_law_flowers_2_r (e : Z.Env) (Q : Fl × Z.Env → Prop) : (lb_law_flowers_2 e).run Q = (((sFor [12, 13, 14] (mRng rng2 (mCons (m2 fAdd (m2 fIx (mVar 10) (m1 fNeg (mC (.int 1)))) (mC (.int 1))) (mCons (mCB fLen (mCons (mVar 0) mNil)) mNil))) (nName 12) lb_law_flowers_1)) e).run Q := rfl
def lb_law_flowers_3 : Ms := (sSeq (sAsgL 9 (mLst mNil))
    (sSeq (sFor [11, 12, 13, 14] (mSeqI (mVar 7)) (nTup 2 (nCons (nName 10) (nCons (nName 11) nNil))) lb_law_flowers_2)
    (sFrz [9] (sAsg 7 (mVar 9)))))
@[simp] theorem lb_law_flowers_3_r (e : Z.Env) (Q : Fl × Z.Env → Prop) : (lb_law_flowers_3 e).run Q = (((sSeq (sAsgL 9 (mLst mNil))
    (sSeq (sFor [11, 12, 13, 14] (mSeqI (mVar 7)) (nTup 2 (nCons (nName 10) (nCons (nName 11) nNil))) lb_law_flowers_2)
    (sFrz [9] (sAsg 7 (mVar 9)))))) e).run Q := rfl
def lb_law_flowers_4 : Ms := (sSeq (sAsg 6 (mCall 2 m_law_meet (aCons (mVar 4) (aCons (m2 fIx (mVar 0) (mVar 5)) aNil))))
    (sSeq (sAsg 7 (mFrz (mLst (mCons (mTup (mCons (mFrz (mLst (mCons (mVar 3) (mCons (mVar 5) mNil)))) (mCons (mFrz (mLc [15] (mSeqI (m2 fAdd (mVar 4) (m2 fIx (mVar 0) (mVar 5)))) (nName 15) (mBool (m2 fNotIn (mVar 15) (mVar 6))) (mVar 15))) mNil))) mNil))))
    (sSeq (sFor [8, 9, 11, 12, 13, 14] (mRng rng1 (mCons (m2 fSub (mVar 1) (mC (.int 2))) mNil)) (nName 8) lb_law_flowers_3)
    (sExt 2 (mFrz (mLc [10, 11] (mSeqI (mVar 7)) (nTup 2 (nCons (nName 10) (nCons (nName 11) nNil))) mYes (mTup (mCons (mVar 10) (mCons (mVar 6) mNil)))))))))
@[simp] theorem lb_law_flowers_4_r (e : Z.Env) (Q : Fl × Z.Env → Prop) : (lb_law_flowers_4 e).run Q = (((sSeq (sAsg 6 (mCall 2 m_law_meet (aCons (mVar 4) (aCons (m2 fIx (mVar 0) (mVar 5)) aNil))))
    (sSeq (sAsg 7 (mFrz (mLst (mCons (mTup (mCons (mFrz (mLst (mCons (mVar 3) (mCons (mVar 5) mNil)))) (mCons (mFrz (mLc [15] (mSeqI (m2 fAdd (mVar 4) (m2 fIx (mVar 0) (mVar 5)))) (nName 15) (mBool (m2 fNotIn (mVar 15) (mVar 6))) (mVar 15))) mNil))) mNil))))
    (sSeq (sFor [8, 9, 11, 12, 13, 14] (mRng rng1 (mCons (m2 fSub (mVar 1) (mC (.int 2))) mNil)) (nName 8) lb_law_flowers_3)
    (sExt 2 (mFrz (mLc [10, 11] (mSeqI (mVar 7)) (nTup 2 (nCons (nName 10) (nCons (nName 11) nNil))) mYes (mTup (mCons (mVar 10) (mCons (mVar 6) mNil)))))))))) e).run Q := rfl
def lb_law_flowers_5 : Ms := (sFor [5, 6, 7, 8, 9, 11, 12, 13, 14] (mRng rng2 (mCons (m2 fAdd (mVar 3) (mC (.int 1))) (mCons (mCB fLen (mCons (mVar 0) mNil)) mNil))) (nName 5) lb_law_flowers_4)
@[simp] theorem lb_law_flowers_5_r (e : Z.Env) (Q : Fl × Z.Env → Prop) : (lb_law_flowers_5 e).run Q = (((sFor [5, 6, 7, 8, 9, 11, 12, 13, 14] (mRng rng2 (mCons (m2 fAdd (mVar 3) (mC (.int 1))) (mCons (mCB fLen (mCons (mVar 0) mNil)) mNil))) (nName 5) lb_law_flowers_4)) e).run Q := rfl
def ms_law_flowers : Ms := (sSeq (sAsgL 2 (mLst mNil))
    (sSeq (sFor [3, 4, 5, 6, 7, 8, 9, 11, 12, 13, 14] (mEnum (mCons (mVar 0) mNil)) (nTup 2 (nCons (nName 3) (nCons (nName 4) nNil))) lb_law_flowers_5)
    (sRetB 2)))
def m_law_flowers : List Sl → W Rv := mFn 14 ms_law_flowers
def lb_law_next_1 : Ms := (sDPutT 3 (m2 fIx (mVar 0) (mVar 6)) (mC (.bool true)))
@[simp] theorem lb_law_next_1_r (e : Z.Env) (Q : Fl × Z.Env → Prop) : (lb_law_next_1 e).run Q = (((sDPutT 3 (m2 fIx (mVar 0) (mVar 6)) (mC (.bool true)))) e).run Q := rfl
def lb_law_next_2 : Ms := (sFor [6] (mSeqI (mVar 4)) (nName 6) lb_law_next_1)
@[simp] theorem lb_law_next_2_r (e : Z.Env) (Q : Fl × Z.Env → Prop) : (lb_law_next_2 e).run Q = (((sFor [6] (mSeqI (mVar 4)) (nName 6) lb_law_next_1)) e).run Q := rfl
def ms_law_next : Ms := (sSeq (sAsg 2 (mCall 2 m_law_flowers (aCons (mVar 0) (aCons (mVar 1) aNil))))
    (sSeq (sNewT 3)
    (sSeq (sFor [4, 6] (mSeqI (mVar 2)) (nTup 2 (nCons (nName 4) (nCons (nName 5) nNil))) lb_law_next_2)
    (sRet (mCB fTupOf (mCons (mFrz (mCBL fSortSet (mCons (m2 fAdd (mFrz (mLc [4, 5] (mSeqI (mVar 2)) (nTup 2 (nCons (nName 4) (nCons (nName 5) nNil))) mYes (mVar 5))) (mFrz (mLc [7] (mSeqI (mVar 0)) (nName 7) (mBool (mDInT true 3 (mVar 7))) (mVar 7)))) mNil))) mNil))))))
def m_law_next : List Sl → W Rv := mFn 6 ms_law_next
def lb_law_due_1 : Ms := (sSeq (sApp 3 (mVar 4))
    (sAsg 4 (mLend (mCall 2 m_law_next (aCons (m2 fIx (mVar 3) (m1 fNeg (mC (.int 1)))) (aCons (mVar 1) aNil))))))
@[simp] theorem lb_law_due_1_r (e : Z.Env) (Q : Fl × Z.Env → Prop) : (lb_law_due_1 e).run Q = (((sSeq (sApp 3 (mVar 4))
    (sAsg 4 (mLend (mCall 2 m_law_next (aCons (m2 fIx (mVar 3) (m1 fNeg (mC (.int 1)))) (aCons (mVar 1) aNil))))))) e).run Q := rfl
def lt_law_due_2 : Z.Env → W Bool := (mLendT (mAnd (mBool (m2 fLt (mCB fLen (mCons (mVar 3) mNil)) (mVar 2))) (mBool (m2 fNe (mVar 4) (m2 fIx (mVar 3) (m1 fNeg (mC (.int 1))))))))
@[simp] theorem lt_law_due_2_r (e : Z.Env) (Q : Bool → Prop) : (lt_law_due_2 e).run Q = (((mLendT (mAnd (mBool (m2 fLt (mCB fLen (mCons (mVar 3) mNil)) (mVar 2))) (mBool (m2 fNe (mVar 4) (m2 fIx (mVar 3) (m1 fNeg (mC (.int 1))))))))) e).run Q := rfl
def ms_law_due : Ms := (sSeq (sAsgL 3 (mLst (mCons (mVar 0) mNil)))
    (sSeq (sAsg 4 (mCall 2 m_law_next (aCons (mVar 0) (aCons (mVar 1) aNil))))
    (sSeq (sWhile [] lt_law_due_2 lb_law_due_1)
    (sRetB 3))))
def m_law_due : List Sl → W Rv := mFn 2 ms_law_due
def ms_meet : Ms := (sRet (mCB fTupOf (mCons (mFrz (mLc [2] (mSeqI (mVar 0)) (nName 2) (mBool (m2 fIn (mVar 2) (mVar 1))) (mVar 2))) mNil)))
def m_meet : List Sl → W Rv := mFn 1 ms_meet
def lb_begun_1 : Ms := (sExt 1 (mFrz (mLc [4] (mRng rng2 (mCons (m2 fAdd (mVar 2) (mC (.int 1))) (mCons (mCB fLen (mCons (mVar 0) mNil)) mNil))) (nName 4) mYes (mTup (mCons (mFrz (mLst (mCons (mVar 2) (mCons (mVar 4) mNil)))) (mCons (mCall 2 m_meet (aCons (mVar 3) (aCons (m2 fIx (mVar 0) (mVar 4)) aNil))) mNil))))))
@[simp] theorem lb_begun_1_r (e : Z.Env) (Q : Fl × Z.Env → Prop) : (lb_begun_1 e).run Q = (((sExt 1 (mFrz (mLc [4] (mRng rng2 (mCons (m2 fAdd (mVar 2) (mC (.int 1))) (mCons (mCB fLen (mCons (mVar 0) mNil)) mNil))) (nName 4) mYes (mTup (mCons (mFrz (mLst (mCons (mVar 2) (mCons (mVar 4) mNil)))) (mCons (mCall 2 m_meet (aCons (mVar 3) (aCons (m2 fIx (mVar 0) (mVar 4)) aNil))) mNil))))))) e).run Q := rfl
def ms_begun : Ms := (sSeq (sAsgL 1 (mLst mNil))
    (sSeq (sFor [2, 3] (mEnum (mCons (mVar 0) mNil)) (nTup 2 (nCons (nName 2) (nCons (nName 3) nNil))) lb_begun_1)
    (sRetB 1)))
def m_begun : List Sl → W Rv := mFn 4 ms_begun
def ms_fits : Ms := (sRet (m2 fEq (mFrz (mLc [4] (mSeqI (mVar 1)) (nName 4) (mBool (m2 fNe (mCall 2 m_meet (aCons (m2 fIx (mVar 0) (mVar 4)) (aCons (m2 fIx (mVar 0) (mVar 3)) aNil))) (mVar 2))) (mVar 4))) (mFrz (mLst mNil))))
def m_fits : List Sl → W Rv := mFn 1 ms_fits
def lb_grown_1 : Ms := (sIf (mTruth (mCall 4 m_fits (aCons (mVar 0) (aCons (mVar 3) (aCons (mVar 4) (aCons (mVar 5) aNil)))))) (sApp 2 (mTup (mCons (m2 fAdd (mVar 3) (mFrz (mLst (mCons (mVar 5) mNil)))) (mCons (mVar 4) mNil)))) sNil)
@[simp] theorem lb_grown_1_r (e : Z.Env) (Q : Fl × Z.Env → Prop) : (lb_grown_1 e).run Q = (((sIf (mTruth (mCall 4 m_fits (aCons (mVar 0) (aCons (mVar 3) (aCons (mVar 4) (aCons (mVar 5) aNil)))))) (sApp 2 (mTup (mCons (m2 fAdd (mVar 3) (mFrz (mLst (mCons (mVar 5) mNil)))) (mCons (mVar 4) mNil)))) sNil)) e).run Q := rfl
def lb_grown_2 : Ms := (sFor [5] (mRng rng2 (mCons (m2 fAdd (m2 fIx (mVar 3) (m1 fNeg (mC (.int 1)))) (mC (.int 1))) (mCons (mCB fLen (mCons (mVar 0) mNil)) mNil))) (nName 5) lb_grown_1)
@[simp] theorem lb_grown_2_r (e : Z.Env) (Q : Fl × Z.Env → Prop) : (lb_grown_2 e).run Q = (((sFor [5] (mRng rng2 (mCons (m2 fAdd (m2 fIx (mVar 3) (m1 fNeg (mC (.int 1)))) (mC (.int 1))) (mCons (mCB fLen (mCons (mVar 0) mNil)) mNil))) (nName 5) lb_grown_1)) e).run Q := rfl
def ms_grown : Ms := (sSeq (sAsgL 2 (mLst mNil))
    (sSeq (sFor [3, 4, 5] (mSeqI (mVar 1)) (nTup 2 (nCons (nName 3) (nCons (nName 4) nNil))) lb_grown_2)
    (sRetB 2)))
def m_grown : List Sl → W Rv := mFn 4 ms_grown
def lb_flowers_of_1 : Ms := (sAsg 2 (mCall 2 m_grown (aCons (mVar 0) (aCons (mVar 2) aNil))))
@[simp] theorem lb_flowers_of_1_r (e : Z.Env) (Q : Fl × Z.Env → Prop) : (lb_flowers_of_1 e).run Q = (((sAsg 2 (mCall 2 m_grown (aCons (mVar 0) (aCons (mVar 2) aNil))))) e).run Q := rfl
def ms_flowers_of : Ms := (sSeq (sAsg 2 (mCall 1 m_begun (aCons (mVar 0) aNil)))
    (sSeq (sFor [3] (mRng rng1 (mCons (m2 fSub (mVar 1) (mC (.int 2))) mNil)) (nName 3) lb_flowers_of_1)
    (sRet (mVar 2))))
def m_flowers_of : List Sl → W Rv := mFn 2 ms_flowers_of
def lb_next_level_1 : Ms := (sDPut 3 (mVar 6) (mC (.bool true)))
@[simp] theorem lb_next_level_1_r (e : Z.Env) (Q : Fl × Z.Env → Prop) : (lb_next_level_1 e).run Q = (((sDPut 3 (mVar 6) (mC (.bool true)))) e).run Q := rfl
def lb_next_level_2 : Ms := (sFor [] (mSeqI (mVar 4)) (nName 6) lb_next_level_1)
@[simp] theorem lb_next_level_2_r (e : Z.Env) (Q : Fl × Z.Env → Prop) : (lb_next_level_2 e).run Q = (((sFor [] (mSeqI (mVar 4)) (nName 6) lb_next_level_1)) e).run Q := rfl
def ms_next_level : Ms := (sSeq (sAsg 2 (mCall 2 m_flowers_of (aCons (mVar 0) (aCons (mVar 1) aNil))))
    (sSeq (sNewK 3)
    (sSeq (sFor [4] (mSeqI (mVar 2)) (nTup 2 (nCons (nName 4) (nCons (nName 5) nNil))) lb_next_level_2)
    (sSeq (sAsg 7 (mFrz (mLc [6, 8] (mEnum (mCons (mVar 0) mNil)) (nTup 2 (nCons (nName 6) (nCons (nName 8) nNil))) (mBool (mDIn true 3 (mVar 6))) (mVar 8))))
    (sRet (mCB fTupOf (mCons (mFrz (mCBL fSortSet (mCons (m2 fAdd (mVar 7) (mFrz (mLc [4, 5] (mSeqI (mVar 2)) (nTup 2 (nCons (nName 4) (nCons (nName 5) nNil))) mYes (mVar 5)))) mNil))) mNil)))))))
def m_next_level : List Sl → W Rv := mFn 7 ms_next_level
def lb_levels_of_1 : Ms := (sSeq (sAsg 4 (mLend (mCall 2 m_next_level (aCons (m2 fIx (mVar 3) (m1 fNeg (mC (.int 1)))) (aCons (mVar 1) aNil)))))
    (sSeq (sIf (mLendT (mBool (m2 fEq (mVar 4) (m2 fIx (mVar 3) (m1 fNeg (mC (.int 1))))))) (sRetB 3) sNil)
    (sApp 3 (mVar 4))))
@[simp] theorem lb_levels_of_1_r (e : Z.Env) (Q : Fl × Z.Env → Prop) : (lb_levels_of_1 e).run Q = (((sSeq (sAsg 4 (mLend (mCall 2 m_next_level (aCons (m2 fIx (mVar 3) (m1 fNeg (mC (.int 1)))) (aCons (mVar 1) aNil)))))
    (sSeq (sIf (mLendT (mBool (m2 fEq (mVar 4) (m2 fIx (mVar 3) (m1 fNeg (mC (.int 1))))))) (sRetB 3) sNil)
    (sApp 3 (mVar 4))))) e).run Q := rfl
def lt_levels_of_2 : Z.Env → W Bool := (mLendT (mBool (m2 fLt (mCB fLen (mCons (mVar 3) mNil)) (mVar 2))))
@[simp] theorem lt_levels_of_2_r (e : Z.Env) (Q : Bool → Prop) : (lt_levels_of_2 e).run Q = (((mLendT (mBool (m2 fLt (mCB fLen (mCons (mVar 3) mNil)) (mVar 2))))) e).run Q := rfl
def ms_levels_of : Ms := (sSeq (sAsgL 3 (mLst (mCons (mVar 0) mNil)))
    (sSeq (sWhile [4] lt_levels_of_2 lb_levels_of_1)
    (sRetB 3)))
def m_levels_of : List Sl → W Rv := mFn 2 ms_levels_of
def ms_law_same (m_rec : List Sl → W Rv) : Ms := (sSeq (sIf (mBool (m2 fIsN (mVar 1) (mC .none))) (sRet (m2 fIsN (mVar 0) (mC .none))) sNil)
    (sSeq (sIf (mTruth (mIsi .tuple (mVar 1))) (sSeq (sIf (mOr (mNot (mTruth (mIsi .tuple (mVar 0)))) (mBool (m2 fNe (mCB fLen (mCons (mVar 0) mNil)) (mCB fLen (mCons (mVar 1) mNil))))) (sRet (mC (.bool false))) sNil)
    (sRet (m2 fEq (mFrz (mLc [2, 3] (mZip (mCons (mVar 0) (mCons (mVar 1) mNil))) (nTup 2 (nCons (nName 2) (nCons (nName 3) nNil))) (mNot (mTruth (mCall 2 m_rec (aCons (mVar 2) (aCons (mVar 3) aNil))))) (mC (.int 1)))) (mFrz (mLst mNil))))) sNil)
    (sSeq (sIf (mTruth (mIsi .str (mVar 1))) (sRet (mAndV (mIsi .str (mVar 0)) (m2 fEq (mVar 0) (mVar 1)))) sNil)
    (sRet (mAndV (mIsi .int (mVar 0)) (mAndV (mNotV (mIsi .bool (mVar 0))) (m2 fEq (mVar 0) (mVar 1))))))))
def m_law_same (d : Nat) : List Sl → W Rv := Nat.rec (fun _ => W.fail) (fun _ m_rec => mFn 2 (ms_law_same m_rec)) d
theorem m_law_same_z : m_law_same 0 = fun _ => W.fail := rfl
theorem m_law_same_s (d : Nat) : m_law_same (d + 1) = mFn 2 (ms_law_same (m_law_same d)) := rfl
def ms_law_right : Ms := (sSeq (sIf (mOr (mNot (mTruth (mIsi .list (mVar 0)))) (mBool (m2 fNe (mCB fLen (mCons (mVar 0) mNil)) (mCB fLen (mCons (mVar 1) mNil))))) (sRet (mC (.bool false))) sNil)
    (sRet (m2 fEq (mFrz (mLc [2, 3] (mZip (mCons (mVar 0) (mCons (mVar 1) mNil))) (nTup 2 (nCons (nName 2) (nCons (nName 3) nNil))) (mNot (mTruth (mCall 2 (m_law_same 8) (aCons (mVar 2) (aCons (mVar 3) aNil))))) (mC (.int 1)))) (mFrz (mLst mNil)))))
def m_law_right : List Sl → W Rv := mFn 2 ms_law_right
def c_law : Nat := ((0 + turns * (((0 + ((0 + c_law_draw) + 0)) + 0) + ((0 + c_law_sets) + (((0 + (0 + ((0 + (0 + c_law_draw)) + 0))) + (0 + c_law_draw)) + ((((0 + (0 + c_law_draw)) + (0 + ((0 + ((0 + c_law_draw) + 0)) + 0))) + (0 + c_law_draw)) + 0))))) + 0)
def ml_law : Z.Env → W (List PyData) := (mCallL 1 m_law_deck (aCons (mVar 0) aNil))
def lb_law_1 : Ms := (sSeq (sAsg 3 (mCB fInt1 (mCons (mAndV (m2 fEq (mVar 2) (mC (.int 2))) (m2 fEq (mCall 2 m_law_draw (aOpq 1 (aCons (mC (.int 4)) aNil))) (mC (.int 0)))) mNil)))
    (sSeq (sAsg 4 (mCall 3 m_law_sets (aOpq 1 (aCons (m2 fIx (mFrz (mLst (mCons (mC (.int 5)) (mCons (mC (.int 7)) (mCons (mC (.int 8)) (mCons (mC (.int 14)) mNil)))))) (m2 fAdd (mVar 2) (mVar 3))) (aCons (m2 fAdd (mC (.int 8)) (m2 fMul (mC (.int 4)) (mVar 3))) aNil)))))
    (sSeq (sAsg 5 (m2 fIx (mFrz (mLst (mCons (mC (.int 2)) (mCons (mC (.int 3)) (mCons (m2 fAdd (mC (.int 2)) (mCall 2 m_law_draw (aOpq 1 (aCons (mC (.int 5)) aNil)))) mNil))))) (mCall 2 m_law_draw (aOpq 1 (aCons (mC (.int 3)) aNil)))))
    (sSeq (sAsg 6 (m2 fIx (mFrz (mLst (mCons (m2 fAdd (mC (.int 1)) (mCall 2 m_law_draw (aOpq 1 (aCons (mC (.int 8)) aNil)))) (mCons (mC (.int 8)) (mCons (m2 fAdd (mC (.int 9)) (m2 fMul (mCall 2 m_law_draw (aOpq 1 (aCons (m2 fPow (mC (.int 10)) (mC (.int 6))) aNil))) (m2 fPow (mC (.int 10)) (mC (.int 5))))) mNil))))) (mCall 2 m_law_draw (aOpq 1 (aCons (mC (.int 3)) aNil)))))
    (sSeq (sAsg 7 (mCall 3 m_law_due (aCons (mVar 4) (aCons (mVar 5) (aCons (mVar 6) aNil)))))
    (sSeq (sAsgL 8 (mCallL 3 m_levels_of (aCons (mVar 4) (aCons (mVar 5) (aCons (mVar 6) aNil)))))
    (sSeq (sIf (mLendT (mNot (mTruth (mCall 2 m_law_right (aCons (mVar 8) (aCons (mVar 7) aNil)))))) (sRet (mC (.bool false))) sNil)
    (sSeq (sApp 8 (mTup mNil))
    (sSeq (sSetI 8 (mC (.int 0)) (mTup mNil))
    (sIf (mNot (mTruth (mCall 2 m_law_right (aCons (mCall 3 m_levels_of (aCons (mVar 4) (aCons (mVar 5) (aCons (mVar 6) aNil)))) (aCons (mVar 7) aNil))))) (sRet (mC (.bool false))) sNil))))))))))
@[simp] theorem lb_law_1_r (e : Z.Env) (Q : Fl × Z.Env → Prop) : (lb_law_1 e).run Q = (((sSeq (sAsg 3 (mCB fInt1 (mCons (mAndV (m2 fEq (mVar 2) (mC (.int 2))) (m2 fEq (mCall 2 m_law_draw (aOpq 1 (aCons (mC (.int 4)) aNil))) (mC (.int 0)))) mNil)))
    (sSeq (sAsg 4 (mCall 3 m_law_sets (aOpq 1 (aCons (m2 fIx (mFrz (mLst (mCons (mC (.int 5)) (mCons (mC (.int 7)) (mCons (mC (.int 8)) (mCons (mC (.int 14)) mNil)))))) (m2 fAdd (mVar 2) (mVar 3))) (aCons (m2 fAdd (mC (.int 8)) (m2 fMul (mC (.int 4)) (mVar 3))) aNil)))))
    (sSeq (sAsg 5 (m2 fIx (mFrz (mLst (mCons (mC (.int 2)) (mCons (mC (.int 3)) (mCons (m2 fAdd (mC (.int 2)) (mCall 2 m_law_draw (aOpq 1 (aCons (mC (.int 5)) aNil)))) mNil))))) (mCall 2 m_law_draw (aOpq 1 (aCons (mC (.int 3)) aNil)))))
    (sSeq (sAsg 6 (m2 fIx (mFrz (mLst (mCons (m2 fAdd (mC (.int 1)) (mCall 2 m_law_draw (aOpq 1 (aCons (mC (.int 8)) aNil)))) (mCons (mC (.int 8)) (mCons (m2 fAdd (mC (.int 9)) (m2 fMul (mCall 2 m_law_draw (aOpq 1 (aCons (m2 fPow (mC (.int 10)) (mC (.int 6))) aNil))) (m2 fPow (mC (.int 10)) (mC (.int 5))))) mNil))))) (mCall 2 m_law_draw (aOpq 1 (aCons (mC (.int 3)) aNil)))))
    (sSeq (sAsg 7 (mCall 3 m_law_due (aCons (mVar 4) (aCons (mVar 5) (aCons (mVar 6) aNil)))))
    (sSeq (sAsgL 8 (mCallL 3 m_levels_of (aCons (mVar 4) (aCons (mVar 5) (aCons (mVar 6) aNil)))))
    (sSeq (sIf (mLendT (mNot (mTruth (mCall 2 m_law_right (aCons (mVar 8) (aCons (mVar 7) aNil)))))) (sRet (mC (.bool false))) sNil)
    (sSeq (sApp 8 (mTup mNil))
    (sSeq (sSetI 8 (mC (.int 0)) (mTup mNil))
    (sIf (mNot (mTruth (mCall 2 m_law_right (aCons (mCall 3 m_levels_of (aCons (mVar 4) (aCons (mVar 5) (aCons (mVar 6) aNil)))) (aCons (mVar 7) aNil))))) (sRet (mC (.bool false))) sNil))))))))))) e).run Q := rfl
def ms_law : Ms := (sSeq (sForN [2, 3, 4, 5, 6, 7, 8] (mRng rng1 (mCons (mC (.int 3)) mNil)) (nName 2) lb_law_1)
    (sRet (mAndV (m2 fEq (mCall 3 m_levels_of (aCons (mTup mNil) (aCons (mC (.int 2)) (aCons (mC (.int 5)) aNil)))) (mFrz (mLst (mCons (mTup mNil) mNil)))) (m2 fEq (mCall 3 m_levels_of (aCons (mTup (mCons (mTup (mCons (mC (.str "a")) mNil)) (mCons (mTup (mCons (mC (.str "b")) mNil)) mNil))) (aCons (mC (.int 2)) (aCons (mC (.int 5)) aNil)))) (mFrz (mLst (mCons (mTup (mCons (mTup (mCons (mC (.str "a")) mNil)) (mCons (mTup (mCons (mC (.str "b")) mNil)) mNil))) (mCons (mTup (mCons (mTup mNil) mNil)) mNil))))))))
theorem c_law_le : c_law ≤ nMax := Nat.le_of_ble_eq_true rfl
end Law
namespace Law
open PySem Z
/-! ### a deck of three numbers -/
theorem cdiv_of {b n : Int} (h : 1 ≤ n ∧ n < 2 ^ 62) : L2.CDivW b n := by
  refine ⟨by omega, ?_⟩
  have : n.natAbs < 2 ^ 62 := by omega
  exact Nat.lt_of_lt_of_le (Nat.log2_lt (by omega) |>.mpr this) (by decide)
theorem cm_of {a b : Int} (h : -(2 ^ 64) < a ∧ a < 2 ^ 64) : CM a b := .inl (.inl h)
theorem cm_of' {a b : Int} (h : -(2 ^ 64) < b ∧ b < 2 ^ 64) : CM a b := .inl (.inr h)
theorem bits_lt {x : Int} {m : Nat} (h : Builtin.Int.intBits x ≤ m) : x.natAbs < 2 ^ m := by
  unfold Builtin.Int.intBits at h
  split at h
  · rename_i c
    have : x = 0 := by simpa using c
    subst this
    exact Nat.pos_of_ne_zero (by simp)
  · rename_i c
    have hx : x.natAbs ≠ 0 := by
      intro z
      exact c (by simpa using z)
    exact (Nat.log2_lt hx).mp (by omega)
theorem lt_bits {x : Int} {m : Nat} (h : x.natAbs < 2 ^ m) : Builtin.Int.intBits x ≤ m := by
  unfold Builtin.Int.intBits
  split
  · omega
  · rename_i c
    have hx : x.natAbs ≠ 0 := by
      intro z
      exact c (by simpa using z)
    have := (Nat.log2_lt hx).mpr h
    omega
theorem grow_lt {g c A P : Nat} (hg : g < A) (hc : c < A) (hP : P + 1 ≤ 2 ^ 206) : g * P + c < A * 2 ^ 206 := by
  have h1 : g * P ≤ A * P := Nat.mul_le_mul_right _ (Nat.le_of_lt hg)
  have h2 : A * (P + 1) ≤ A * 2 ^ 206 := Nat.mul_le_mul_left _ hP
  rw [Nat.mul_succ] at h2
  omega
theorem deck_loop {s0 : Sl} {N : Nat} (hN : N ≤ 1048576) : ∀ (cs : List Int) (j : Nat) (g m : Int), (∀ z ∈ cs, Builtin.Int.intBits z ≤ N) → 0 ≤ g → g.natAbs < 2 ^ (N + 206 * j) → j + cs.length ≤ 63 → ∀ {Q : Fl × Z.Env → Prop}, (∀ (g m : Int), 0 ≤ g → Q (.nx, [s0, .imm (.int g), .imm (.int m), .any])) →
    (loopM [3] (nName 3) lb_law_deck_1 (cs.map .int) [s0, .imm (.int g), .imm (.int m), .any]).run Q
  | [], j, g, m, _, h0, _, _, Q, q => by simpa using q g m h0
  | c :: cs, j, g, m, hb, h0, hg, hl, Q, q => by
    rw [List.length_cons] at hl
    have hc := bits_lt (hb c (List.mem_cons_self ..))
    rw [List.map_cons, loop_cons]
    simp
    refine ⟨by unfold L2.CPow; decide, ?_⟩
    have e : (if c < 0 then -c else c) = (c.natAbs : Int) := by split <;> omega
    rw [e]
    split
    · have hcs : L2.CShl g 205 := ⟨by decide, by
        have := lt_bits hg
        have : (2 : Int) ^ 27 = 134217728 := by decide
        omega⟩
      refine ⟨hcs, ?_⟩
      refine deck_loop hN cs (j + 1) _ m (fun z hz => hb z (List.mem_cons_of_mem _ hz)) (by omega) ?_ (by omega) q
      obtain ⟨k, rfl⟩ := Int.eq_ofNat_of_zero_le h0
      have hk : k < 2 ^ (N + 206 * j) := hg
      have hc2 : c.natAbs < 2 ^ (N + 206 * j) := Nat.lt_of_lt_of_le hc (Nat.pow_le_pow_right (by decide) (by omega))
      have hgr := grow_lt (P := 51422017416287688817342786954917203280710495801049370729644032) hk hc2 (by decide +kernel)
      have e3 : 2 ^ (N + 206 * (j + 1)) = 2 ^ (N + 206 * j) * 2 ^ 206 := by rw [← Nat.pow_add, Nat.mul_succ, Nat.add_assoc]
      rw [e3]
      have e4 : ((k : Int) * 51422017416287688817342786954917203280710495801049370729644032 + (c.natAbs : Int)).natAbs = k * 51422017416287688817342786954917203280710495801049370729644032 + c.natAbs := by clear hgr e3 hc2 hk hcs hg hc hb; omega
      rw [e4]
      exact hgr
    · refine ⟨cm_of' (by decide), ?_⟩
      exact deck_loop hN cs (j + 1) g _ (fun z hz => hb z (List.mem_cons_of_mem _ hz)) h0 (Nat.lt_of_lt_of_le hg (Nat.pow_le_pow_right (by decide) (by omega))) (by omega) q
theorem law_first (ns : List Int) (hl : ns.length ≤ 63) (hb : ∀ z ∈ ns, Builtin.Int.intBits z ≤ 1048576) : (ml_law (.imm (.list (ns.map PyData.int)) :: List.replicate 8 .any)).run fun ds => ∃ is, ds = is.map PyData.int ∧ WInv 0 is := by
  have e : cutL (ns.map PyData.int) none (some 63) = ns.map PyData.int := by
    rw [show (some 63 : Option Int) = some ((63 : Nat) : Int) from rfl, cut_to, List.take_of_length_le (by simpa using hl)]
  simp [ml_law, m_law_deck, ms_law_deck, e, List.replicate_succ]
  refine ⟨cm_of (by decide), ?_⟩
  refine deck_loop (Nat.le_refl _) ns 0 0 _ hb (Int.le_refl 0) (Nat.pos_of_ne_zero (by simp)) (by omega) fun g m h0 => ?_
  simp
  exact ⟨[g, m, 0], rfl, rfl, h0, Int.le_refl 0, Int.le_refl 0⟩
def Bg (k : Int) : Prop := k.natAbs < 2 ^ 4100
theorem bg_log {x : Nat} (h : x < 2 ^ 5000) : x.log2 ≤ 5000 := by
  rcases Nat.eq_zero_or_pos x with h0 | h0
  · rw [h0]; exact Nat.le_trans (by decide) (Nat.zero_le _)
  · exact Nat.le_of_lt ((Nat.log2_lt (by omega)).mpr h)
theorem cm_bg {k : Int} (h : Bg k) : CM (70003 * k) k := by
  refine .inr ?_
  have h1 : k.natAbs < 2 ^ 5000 := Nat.lt_of_lt_of_le h (Nat.pow_le_pow_right (by decide) (by decide))
  have h2 : (70003 * k).natAbs < 2 ^ 5000 := by
    rw [Int.natAbs_mul]
    refine Nat.lt_of_lt_of_le (Nat.mul_lt_mul_of_le_of_lt (Nat.le_refl _) h (by decide)) ?_
    decide +kernel
  have := bg_log h1
  have := bg_log h2
  omega
theorem bg_of {z : Int} {lv : Nat} (h0 : 0 ≤ z) (h1 : z ≤ lv) (h2 : lv + 1 ≤ nMax) : Bg (z + 1) := by
  unfold Bg
  have h3 : nMax + 10000 < 2 ^ 4100 := by decide +kernel
  generalize 2 ^ 4100 = m at *
  omega
theorem plain_law_draw : ∀ (zs : List Int) (n : Int) (lv : Nat), WInv lv zs → lv + 1 ≤ nMax → 1 ≤ n ∧ n < 2 ^ 62 → (ms_law_draw ([.lst (zs.map PyData.int), .imm (.int n)] ++ List.replicate 3 .any)).run fun r =>
      (∃ x, r.1 = .rt (.im (.int x)) ∧ 0 ≤ x ∧ x < n) ∧ ∃ is, gt r.2 0 = .lst (is.map PyData.int) ∧ WInv (lv + 1) is := by
  intro zs n lv hp hlv hn
  obtain ⟨h1, h2, h3⟩ := hp
  match zs, h1 with
  | [a, b, c], _ =>
    have h2' : 0 ≤ a := h2
    have h3' : 0 ≤ c ∧ c ≤ lv := h3
    have md : ∀ z : Int, 0 ≤ z % n ∧ z % n < n := fun z => ⟨Int.emod_nonneg _ (by omega), Int.emod_lt_of_pos _ (by omega)⟩
    have dv : ∀ z : Int, 0 ≤ z → 0 ≤ z / n := fun z hz => Int.ediv_nonneg hz (by omega)
    have inv : ∀ a' : Int, 0 ≤ a' → WInv (lv + 1) [a', b, c + 1] := fun a' p1 => ⟨rfl, p1, by show 0 ≤ c + 1; omega, by show c + 1 ≤ ((lv + 1 : Nat) : Int); omega⟩
    simp [ms_law_draw, List.replicate_succ]
    split
    · exact ⟨by omega, cdiv_of hn, md a, [a / n, b, c + 1], rfl, inv _ (dv a h2')⟩
    · have m1 : ∀ z : Int, 0 ≤ z % 2147483543 ∧ z % 2147483543 < 2147483543 := fun z => ⟨Int.emod_nonneg _ (by decide), Int.emod_lt_of_pos _ (by decide)⟩
      have := m1 (b + 70003 * (c + 1) * (c + 1) + 5003 * (c + 1))
      exact ⟨cm_of (by decide), cm_bg (bg_of h3'.1 h3'.2 hlv), cm_of (by decide), cm_of (by omega), cm_of' (by decide), cm_of' (by decide), ⟨by decide, by decide⟩, by omega, md _, [a, b, c + 1], rfl, inv _ h2'⟩
end Law
namespace Law
open PySem Z
/-! ### rows of names: plain combinatorics -/
def kids (row : List Str) : List Str → Nat → List (List Str × Nat)
  | [], _ => []
  | x :: r, i => (row ++ [x], i + 1) :: kids row r (i + 1)
def comb (names : List Str) : Nat → List (List Str × Nat)
  | 0 => [([], 0)]
  | t + 1 => (comb names t).flatMap fun p => kids p.1 (names.drop p.2) p.2
def rowsAt (names : List Str) (k : Nat) : List (List Str) := (comb names k).map (·.1)
theorem kids_fst (row : List Str) : ∀ (suf : List Str) (i : Nat), (kids row suf i).map (·.1) = suf.map fun x => row ++ [x]
  | [], _ => rfl
  | x :: r, i => by simp [kids, kids_fst row r]
theorem rowsAt_succ (names : List Str) (t : Nat) : rowsAt names (t + 1) = (comb names t).flatMap fun p => (names.drop p.2).map fun x => p.1 ++ [x] := by
  unfold rowsAt
  rw [comb, List.map_flatMap]
  congr 1
  funext p
  exact kids_fst _ _ _
/-- the potential: how many rows can still come -/
def pot (n : Nat) (ps : List (List Str × Nat)) : Nat := (ps.map fun p => 2 ^ (n - p.2)).sum
theorem pot_nil (n : Nat) : pot n [] = 0 := rfl
theorem pot_cons (n : Nat) (p : List Str × Nat) (ps : List (List Str × Nat)) : pot n (p :: ps) = 2 ^ (n - p.2) + pot n ps := by simp [pot]
theorem pot_app (n : Nat) (ps qs : List (List Str × Nat)) : pot n (ps ++ qs) = pot n ps + pot n qs := by simp [pot]
theorem pot_len (n : Nat) : ∀ ps : List (List Str × Nat), ps.length ≤ pot n ps
  | [] => Nat.zero_le _
  | p :: ps => by
    rw [pot_cons, List.length_cons]
    have := pot_len n ps
    have : 0 < 2 ^ (n - p.2) := Nat.two_pow_pos _
    omega
theorem pot_kids (row : List Str) : ∀ (suf : List Str) (i n : Nat), n = i + suf.length → pot n (kids row suf i) + 1 = 2 ^ (n - i)
  | [], i, n, h => by simp at h; subst h; simp [kids, pot]
  | x :: r, i, n, h => by
    rw [kids, pot_cons]
    have ih := pot_kids row r (i + 1) n (by rw [h, List.length_cons]; omega)
    simp only
    have e : n - i = (n - (i + 1)) + 1 := by rw [h, List.length_cons]; omega
    rw [e, Nat.pow_succ]
    omega
theorem comb_le {names : List Str} : ∀ (t : Nat) (p : List Str × Nat), p ∈ comb names t → p.2 ≤ names.length ∧ p.1.length = t ∧ ((p.1 = [] ∧ p.2 = 0) ∨ ∃ i, p.2 = i + 1 ∧ ∃ x, names[i]? = some x ∧ p.1.getLast? = some x)
  | 0, p, h => by
    simp [comb] at h; subst h; simp
  | t + 1, p, h => by
    rw [comb, List.mem_flatMap] at h
    obtain ⟨q, hq, hp⟩ := h
    obtain ⟨h1, h2, _⟩ := comb_le t q hq
    have aux : ∀ (suf : List Str) (i : Nat), names.drop i = suf → i ≤ names.length → p ∈ kids q.1 suf i → p.2 ≤ names.length ∧ p.1.length = t + 1 ∧ ∃ j, p.2 = j + 1 ∧ ∃ x, names[j]? = some x ∧ p.1.getLast? = some x := by
      intro suf
      induction suf with
      | nil => intro i _ _ hp; simp [kids] at hp
      | cons x r ih =>
        intro i e hi hp
        rw [kids, List.mem_cons] at hp
        have hl : i < names.length := by
          rcases Nat.lt_or_ge i names.length with h | h
          · exact h
          · rw [List.drop_eq_nil_of_le h] at e; cases e
        have hx : names[i]? = some x := by
          have : (names.drop i)[0]? = some x := by rw [e]; rfl
          simpa using this
        rcases hp with rfl | hp
        · exact ⟨hl, by simp [h2], i, rfl, x, hx, by simp⟩
        · refine ih (i + 1) ?_ hl hp
          rw [← List.drop_drop, e]; rfl
    obtain ⟨a, b, c⟩ := aux _ _ rfl h1 hp
    exact ⟨a, b, .inr c⟩
theorem pot_comb (names : List Str) : ∀ t : Nat, pot names.length (comb names t) ≤ 2 ^ names.length
  | 0 => by simp [comb, pot]
  | t + 1 => by
    refine Nat.le_trans ?_ (pot_comb names t)
    rw [comb]
    have aux : ∀ ps : List (List Str × Nat), (∀ p ∈ ps, p.2 ≤ names.length) → pot names.length (ps.flatMap fun p => kids p.1 (names.drop p.2) p.2) ≤ pot names.length ps := by
      intro ps
      induction ps with
      | nil => intro _; exact Nat.le_refl _
      | cons p ps ih =>
        intro h
        rw [List.flatMap_cons, pot_app, pot_cons]
        have h1 := ih fun q hq => h q (List.mem_cons_of_mem _ hq)
        have h2 := pot_kids p.1 (names.drop p.2) p.2 names.length (by have := h p (List.mem_cons_self ..); simp; omega)
        omega
    exact aux _ fun p hp => (comb_le t p hp).1
theorem kids_sub (row : List Str) {x : Str} {r : List Str} : ∀ (suf : List Str) (i : Nat), (x :: r).Sublist suf → ∃ j, i ≤ j ∧ (row ++ [x], j + 1) ∈ kids row suf i ∧ r.Sublist (suf.drop (j + 1 - i))
  | [], i, h => by cases h
  | y :: s, i, h => by
    cases h with
    | cons _ h =>
      obtain ⟨j, h1, h2, h3⟩ := kids_sub row s (i + 1) h
      refine ⟨j, by omega, List.mem_cons_of_mem _ h2, ?_⟩
      have e : j + 1 - i = (j + 1 - (i + 1)) + 1 := by omega
      rw [e, List.drop_succ_cons]; exact h3
    | cons_cons _ h =>
      refine ⟨i, Nat.le_refl _, List.mem_cons_self .., ?_⟩
      have e : i + 1 - i = 1 := by omega
      rw [e]; exact h
theorem comb_sub (names : List Str) : ∀ (sub row : List Str) (b t : Nat), sub.Sublist (names.drop b) → (row, b) ∈ comb names t → ∃ b', (row ++ sub, b') ∈ comb names (t + sub.length)
  | [], row, b, t, _, h => ⟨b, by simpa using h⟩
  | x :: r, row, b, t, hs, h => by
    obtain ⟨j, h1, h2, h3⟩ := kids_sub row (names.drop b) b hs
    rw [List.drop_drop] at h3
    have e : b + (j + 1 - b) = j + 1 := by omega
    rw [e] at h3
    have h4 : (row ++ [x], j + 1) ∈ comb names (t + 1) := by
      rw [comb, List.mem_flatMap]
      exact ⟨(row, b), h, h2⟩
    obtain ⟨b', h5⟩ := comb_sub names r (row ++ [x]) (j + 1) (t + 1) h3 h4
    refine ⟨b', ?_⟩
    have e1 : row ++ x :: r = row ++ [x] ++ r := by simp
    have e2 : t + (x :: r).length = t + 1 + r.length := by simp; omega
    rw [e1, e2]; exact h5
theorem rowsAt_sub {names sub : List Str} (h : sub.Sublist names) : sub ∈ rowsAt names sub.length := by
  obtain ⟨b, hb⟩ := comb_sub names sub [] 0 0 (by simpa using h) (by simp [comb])
  exact List.mem_map.mpr ⟨_, by simpa using hb, rfl⟩
/-! hitting rows -/
def hit (L : List (List Str)) (row : List Str) : Bool := L.all fun s => s.any fun x => decide (x ∈ row)
theorem len_of_sub {xs ys : List Str} (hn : xs.Nodup) (hs : ∀ x ∈ xs, x ∈ ys) : xs.length ≤ ys.length := by
  induction xs generalizing ys with
  | nil => exact Nat.zero_le _
  | cons x r ih =>
    have hx := hs x (List.mem_cons_self ..)
    have hn' := List.nodup_cons.mp hn
    have h1 := ih hn'.2 (ys := ys.erase x) fun y hy => by
      have : y ≠ x := fun e => hn'.1 (e ▸ hy)
      exact (List.mem_erase_of_ne this).mpr (hs y (List.mem_cons_of_mem _ hy))
    rw [List.length_erase_of_mem hx] at h1
    have : 0 < ys.length := List.length_pos_of_mem hx
    rw [List.length_cons]; omega
theorem hit_ex {names : List Str} {L : List (List Str)} (hn : names.Nodup) (hm : ∀ s ∈ L, ∀ x ∈ s, x ∈ names) (he : [] ∉ L) : ∃ row, row.Sublist names ∧ row.length ≤ L.length ∧ hit L row = true := by
  let heads := L.filterMap List.head?
  refine ⟨names.filter fun x => decide (x ∈ heads), List.filter_sublist, ?_, ?_⟩
  · refine Nat.le_trans (len_of_sub (ys := heads) (hn.sublist List.filter_sublist) fun x hx => ?_) (List.length_filterMap_le _ _)
    simpa using (List.mem_filter.mp hx).2
  · rw [hit, List.all_eq_true]
    intro s hs
    cases s with
    | nil => exact absurd hs he
    | cons x r =>
      rw [List.any_eq_true]
      refine ⟨x, List.mem_cons_self .., ?_⟩
      simp only [decide_eq_true_eq, List.mem_filter]
      exact ⟨hm _ hs x (List.mem_cons_self ..), List.mem_filterMap.mpr ⟨_, hs, rfl⟩⟩
def upTo (names : List Str) (m : Nat) : List (List Str) := (List.range (m + 1)).flatMap (rowsAt names)
theorem find_same {names : List Str} {L : List (List Str)} (hn : names.Nodup) (hm : ∀ s ∈ L, ∀ x ∈ s, x ∈ names) :
    (if [] ∈ L then none else (upTo names (min names.length L.length)).find? (hit L)) = (upTo names names.length).find? (hit L) := by
  split
  · rename_i he
    symm
    rw [List.find?_eq_none]
    intro r _ h
    rw [hit, List.all_eq_true] at h
    have := h [] he
    simp at this
  · rename_i he
    obtain ⟨row, h1, h2, h3⟩ := hit_ex hn hm he
    have hl : row.length ≤ min names.length L.length := by
      have := h1.length_le
      omega
    have hin : row ∈ upTo names (min names.length L.length) := List.mem_flatMap.mpr ⟨row.length, by simp; omega, rowsAt_sub h1⟩
    have hsp : ∃ rest, upTo names names.length = upTo names (min names.length L.length) ++ rest := by
      refine ⟨(List.range' (min names.length L.length + 1) (names.length - min names.length L.length)).flatMap (rowsAt names), ?_⟩
      unfold upTo
      rw [← List.flatMap_append]
      congr 1
      rw [List.range_eq_range', List.range_eq_range']
      have := List.range'_append_1 (s := 0) (m := min names.length L.length + 1) (n := names.length - min names.length L.length)
      rw [Nat.zero_add] at this
      rw [this]
      congr 1
      omega
    obtain ⟨rest, e⟩ := hsp
    rw [e, List.find?_append]
    cases c : (upTo names (min names.length L.length)).find? (hit L) with
    | some r => rfl
    | none =>
      rw [List.find?_eq_none] at c
      exact absurd h3 (c row hin)
/-! strictly ordered names -/
theorem slt_irrefl (a : Str) : ¬ a.cps.toList < a.cps.toList := List.lt_irrefl _
theorem filter_drop {R : Str → Str → Prop} [DecidableRel R] (hi : ∀ a, ¬ R a a) (ha : ∀ a b, R a b → ¬ R b a) : ∀ (names : List Str) (i : Nat) (x : Str), names.Pairwise R → names[i]? = some x → names.filter (fun y => decide (R x y)) = names.drop (i + 1)
  | [], i, x, _, h => by simp at h
  | y :: r, 0, x, hp, h => by
    have : y = x := by simpa using h
    subst this
    rw [List.pairwise_cons] at hp
    rw [List.filter_cons_of_neg (by simpa using hi y), List.filter_eq_self.mpr (fun z hz => by simpa using hp.1 z hz)]
    rfl
  | y :: r, i + 1, x, hp, h => by
    rw [List.pairwise_cons] at hp
    have hx : r[i]? = some x := by simpa using h
    have hm : x ∈ r := List.mem_of_getElem? hx
    rw [List.filter_cons_of_neg (by simpa using ha _ _ (hp.1 x hm)), filter_drop hi ha r i x hp.2 hx]
    rfl
end Law
namespace Law
open PySem Z
abbrev tS (xs : List Str) : PyData := .tuple (xs.map .str)
abbrev tSS (L : List (List Str)) : PyData := .tuple (L.map tS)
abbrev pD (p : List Str × Nat) : PyData := .tuple [tS p.1, .int p.2]
theorem tS_eq (xs : List Str) : tS xs = tD (PySem.W.Tup.mk xs) := rfl
theorem map_tS (L : List (List Str)) : L.map tS = (L.map PySem.W.Tup.mk).map tD := by rw [List.map_map]; rfl
theorem map_str (xs : List Str) : xs.map PyData.str = xs.map tD := rfl
theorem map_lstr (L : List (List Str)) : (L.map fun s => PyData.list (s.map .str)) = L.map tD := rfl
theorem rgD_zero (lo : Int) : rgD lo 0 = [] := rfl
theorem rgD_succ (lo : Int) (n : Nat) : rgD lo (n + 1) = .int lo :: rgD (lo + 1) n := by
  unfold rgD
  rw [List.range_succ_eq_map, List.map_cons, List.map_map]
  congr 1
  · simp
  · apply List.map_congr_left
    intro i _
    simp only [Function.comp]
    congr 1
    omega
theorem rgD_len (lo : Int) (n : Nat) : (rgD lo n).length = n := by simp [rgD]
/-! names of sets -/
def ins (ks : List Str) (s : Str) : List Str := if s ∈ ks then ks else ks ++ [s]
def keyL (L : List (List Str)) : List Str := L.foldl (fun ks xs => xs.foldl ins ks) []
def kvOf (ks : List Str) : List (L2.Key × PyData) := ks.map fun s => (.inr s, .bool true)
def nm (L : List (List Str)) : List Str := (keyL L).mergeSort leO
theorem kv_key (ks : List Str) : (kvOf ks).map (fun p => kD p.1) = ks.map .str := by simp [kvOf]
theorem kv_put (ks : List Str) (s : Str) : putP (kvOf ks) (.inr s) (.bool true) = kvOf (ins ks s) := by
  unfold putP ins
  have e : ((kvOf ks).any fun p => decide (p.1 = (Sum.inr s : L2.Key))) = decide (s ∈ ks) := by
    unfold kvOf
    rw [List.any_map, Bool.eq_iff_iff, List.any_eq_true]
    simp only [Function.comp, decide_eq_true_eq]
    constructor
    · rintro ⟨x, hx, e⟩
      cases e; exact hx
    · intro h; exact ⟨s, h, rfl⟩
  rw [e]
  by_cases h : s ∈ ks
  · rw [if_pos (by simpa using h), if_pos h]
    unfold kvOf
    rw [List.map_map]
    apply List.map_congr_left
    intro x _
    simp only [Function.comp]
    split <;> rfl
  · rw [if_neg (by simpa using h), if_neg h]
    simp [kvOf]
structure KOk (base ks : List Str) : Prop where
  nd : ks.Nodup
  sub : ∀ x ∈ ks, x ∈ base
theorem KOk.ins {base ks : List Str} (h : KOk base ks) {s : Str} (hs : s ∈ base) : KOk base (ins ks s) := by
  unfold Law.ins
  split
  · exact h
  · rename_i hn
    refine ⟨?_, fun x hx => ?_⟩
    · rw [List.nodup_append]
      exact ⟨h.nd, by simp, fun a ha b hb => by simp at hb; subst hb; exact fun e => hn (e ▸ ha)⟩
    · rcases List.mem_append.mp hx with hx | hx
      · exact h.sub x hx
      · simp at hx; subst hx; exact hs
theorem KOk.folds {base : List Str} : ∀ {xs ks : List Str}, KOk base ks → (∀ x ∈ xs, x ∈ base) → KOk base (xs.foldl Law.ins ks)
  | [], _, h, _ => h
  | x :: r, _, h, hx => KOk.folds (xs := r) (h.ins (hx x (List.mem_cons_self ..))) fun y hy => hx y (List.mem_cons_of_mem _ hy)
theorem KOk.len {base ks : List Str} (h : KOk base ks) : ks.length ≤ base.length := len_of_sub h.nd h.sub
theorem KOk.keys {base : List Str} : ∀ {L : List (List Str)} {ks : List Str}, KOk base ks → (∀ s ∈ L, ∀ x ∈ s, x ∈ base) → KOk base (L.foldl (fun ks xs => xs.foldl Law.ins ks) ks)
  | [], _, h, _ => h
  | s :: r, _, h, hx => KOk.keys (L := r) (KOk.folds h (hx s (List.mem_cons_self ..))) fun y hy => hx y (List.mem_cons_of_mem _ hy)
theorem ins_mem {ks : List Str} {s x : Str} : x ∈ ins ks s ↔ x ∈ ks ∨ x = s := by
  unfold ins
  split
  · constructor
    · exact .inl
    · rintro (h | rfl)
      · exact h
      · assumption
  · simp
theorem folds_mem {x : Str} : ∀ {xs ks : List Str}, x ∈ xs.foldl ins ks ↔ x ∈ ks ∨ x ∈ xs
  | [], _ => by simp
  | y :: r, ks => by
    rw [List.foldl_cons, folds_mem, ins_mem, List.mem_cons]
    constructor
    · rintro ((h | h) | h)
      · exact .inl h
      · exact .inr (.inl h)
      · exact .inr (.inr h)
    · rintro (h | h | h)
      · exact .inl (.inl h)
      · exact .inl (.inr h)
      · exact .inr h
theorem keys_mem {x : Str} : ∀ {L : List (List Str)} {ks : List Str}, x ∈ L.foldl (fun ks xs => xs.foldl ins ks) ks ↔ x ∈ ks ∨ ∃ s ∈ L, x ∈ s
  | [], _ => by simp
  | s :: r, ks => by
    rw [List.foldl_cons, keys_mem, folds_mem]
    constructor
    · rintro ((h | h) | ⟨t, h1, h2⟩)
      · exact .inl h
      · exact .inr ⟨s, List.mem_cons_self .., h⟩
      · exact .inr ⟨t, List.mem_cons_of_mem _ h1, h2⟩
    · rintro (h | ⟨t, h1, h2⟩)
      · exact .inl (.inl h)
      · rcases List.mem_cons.mp h1 with rfl | h1
        · exact .inl (.inr h2)
        · exact .inr ⟨t, h1, h2⟩
theorem nm_mem {x : Str} {L : List (List Str)} : x ∈ nm L ↔ ∃ s ∈ L, x ∈ s := by
  unfold nm keyL
  rw [List.mem_mergeSort, keys_mem]
  simp
theorem nm_ok {base : List Str} {L : List (List Str)} (h : ∀ s ∈ L, ∀ x ∈ s, x ∈ base) : (nm L).Nodup ∧ (nm L).length ≤ base.length := by
  have k := KOk.keys (base := base) ⟨List.nodup_nil, fun x h => by cases h⟩ h
  unfold nm
  rw [List.length_mergeSort]
  exact ⟨(List.mergeSort_perm _ _).nodup_iff.mpr k.nd, k.len⟩
theorem leO_str (a b : Str) : leO a b = decide (a.cps.toList ≤ b.cps.toList) := by
  have e := congrFun (congrFun (PySem.W.dataLe_str (fun b : Str => b)) a) b
  rw [← e, ← dataLe_D]
  rfl
abbrev sLt (a b : Str) : Prop := a.cps.toList < b.cps.toList
theorem nm_sorted (L : List (List Str)) : (nm L).Pairwise sLt := by
  have h1 : (nm L).Pairwise fun a b => leO a b = true := by
    unfold nm
    refine List.pairwise_mergeSort ?_ ?_ _
    · intro a b c h1 h2
      rw [leO_str, decide_eq_true_eq] at *
      exact List.le_trans h1 h2
    · intro a b
      rw [leO_str, leO_str, Bool.or_eq_true, decide_eq_true_eq, decide_eq_true_eq]
      exact List.le_total _ _
  have h2 : (nm L).Nodup := by
    have k := KOk.keys (base := keyL L) (L := L) (ks := []) ⟨List.nodup_nil, fun x h => by cases h⟩ fun s hs x hx => keys_mem.mpr (.inr ⟨s, hs, hx⟩)
    exact (List.mergeSort_perm _ _).nodup_iff.mpr k.nd
  refine (List.pairwise_and_iff.mpr ⟨h1, h2⟩).imp fun {a b} h => ?_
  obtain ⟨h3, h4⟩ := h
  rw [leO_str, decide_eq_true_eq] at h3
  rcases Decidable.em (a.cps.toList < b.cps.toList) with h | h
  · exact h
  · exact absurd (PySem.W.str_of_cps (List.le_antisymm h3 (List.not_lt.mp h))) h4
section
variable {Q : Fl × Z.Env → Prop}
theorem names_in {base : List Str} (hb : base.length ≤ 1000) {S d : Sl} : ∀ (xs ks : List Str), KOk base ks → (∀ x ∈ xs, x ∈ base) →
    Q (.nx, [S, .dK (kvOf (xs.foldl ins ks)), d, .any]) → (loopM [3] (nName 3) (sDPut 1 (mVar 3) (mC (.bool true))) (xs.map .str) [S, .dK (kvOf ks), d, .any]).run Q
  | [], ks, _, _, q => q
  | x :: r, ks, h, hx, q => by
    have hl := h.len
    rw [List.map_cons, loop_cons]
    simp [kv_put]
    refine ⟨by simp [kvOf]; omega, ?_⟩
    exact names_in hb r _ (h.ins (hx x (List.mem_cons_self ..))) (fun y hy => hx y (List.mem_cons_of_mem _ hy)) q
theorem names_out {base : List Str} (hb : base.length ≤ 1000) {S : Sl} : ∀ (L : List (List Str)) (ks : List Str), KOk base ks → (∀ s ∈ L, ∀ x ∈ s, x ∈ base) →
    Q (.nx, [S, .dK (kvOf (L.foldl (fun ks xs => xs.foldl ins ks) ks)), .any, .any]) →
    (loopM [2, 3] (nName 2) (sFor [3] (mSeqI (mVar 2)) (nName 3) (sDPut 1 (mVar 3) (mC (.bool true)))) (L.map tS) [S, .dK (kvOf ks), .any, .any]).run Q
  | [], ks, _, _, q => q
  | s :: r, ks, h, hx, q => by
    rw [List.map_cons, loop_cons]
    simp [tS]
    refine names_in hb s ks h (hx s (List.mem_cons_self ..)) ?_
    simp
    exact names_out hb r _ (KOk.folds h (hx s (List.mem_cons_self ..))) (fun y hy => hx y (List.mem_cons_of_mem _ hy)) q
end
/-! rows of names -/
section
variable {Q : Fl × Z.Env → Prop}
abbrev someApp : Ms := sApp 4 (mTup (mCons (m2 fAdd (mVar 5) (mTup (mCons (m2 fIx (mVar 0) (mVar 7)) mNil))) (mCons (m2 fAdd (mVar 7) (mC (.int 1))) mNil)))
theorem some_in {names row : List Str} {s1 s2 s3 s6 : Sl} (hr : row.length < 1000) : ∀ (suf : List Str) (b : Nat) (acc : List PyData), names.drop b = suf → acc.length + suf.length < sizeLine →
    Q (.nx, [.imm (tS names), s1, s2, s3, .lst (acc ++ (kids row suf b).map pD), .imm (tS row), s6, .any]) →
    (loopM [7] (nName 7) someApp (rgD b suf.length) [.imm (tS names), s1, s2, s3, .lst acc, .imm (tS row), s6, .any]).run Q
  | [], b, acc, _, _, q => by simpa [rgD_zero, kids] using q
  | x :: r, b, acc, hd, hl, q => by
    rw [List.length_cons, rgD_succ, loop_cons]
    have hx : names[b]? = some x := by
      have : (names.drop b)[0]? = some x := by rw [hd]; rfl
      simpa using this
    have hx2 : (names.map PyData.str)[b]? = some (.str x) := by rw [List.getElem?_map, hx]; rfl
    rw [List.length_cons] at hl
    simp only [szL] at hl ⊢
    simp [tS, atI_nat, hx2]
    refine ⟨by omega, by omega, ?_⟩
    have e : names.drop (b + 1) = r := by rw [← List.drop_drop, hd]; rfl
    have ih := some_in (names := names) (row := row) (s1 := s1) (s2 := s2) (s3 := s3) (s6 := s6) hr r (b + 1) (acc ++ [pD (row ++ [x], b + 1)]) e (by simp only [szL, List.length_append, List.length_cons, List.length_nil]; omega) (by simpa [kids] using q)
    simpa [pD, tS] using ih
theorem some_mid {names : List Str} {s1 s2 s3 : Sl} (hn : names.length ≤ 20) : ∀ (ps : List (List Str × Nat)) (acc : List PyData) (s5 : Sl), (∀ p ∈ ps, p.2 ≤ names.length ∧ p.1.length < 1000) → acc.length + pot names.length ps ≤ 2 ^ names.length →
    (∀ s5, Q (.nx, [.imm (tS names), s1, s2, s3, .lst (acc ++ (ps.flatMap fun p => kids p.1 (names.drop p.2) p.2).map pD), s5, .any, .any])) →
    (loopM [6, 7] (nTup 2 (nCons (nName 5) (nCons (nName 6) nNil))) (sFor [7] (mRng rng2 (mCons (mVar 6) (mCons (mCB fLen (mCons (mVar 0) mNil)) mNil))) (nName 7) someApp) (ps.map pD) [.imm (tS names), s1, s2, s3, .lst acc, s5, .any, .any]).run Q
  | [], acc, s5, _, _, q => by simpa using q s5
  | p :: ps, acc, s5, hp, hl, q => by
    have hp0 := hp p (List.mem_cons_self ..)
    have hk := pot_kids p.1 (names.drop p.2) p.2 names.length (by simp; omega)
    have hk2 := pot_len names.length (kids p.1 (names.drop p.2) p.2)
    have hk3 : (kids p.1 (names.drop p.2) p.2).length = names.length - p.2 := by
      have := congrArg List.length (kids_fst p.1 (names.drop p.2) p.2)
      simpa using this
    rw [pot_cons] at hl
    have h20 : 2 ^ names.length ≤ 2 ^ 20 := Nat.pow_le_pow_right (by decide) hn
    rw [List.map_cons, loop_cons]
    simp [pD]
    refine ⟨by omega, ?_⟩
    have e : names.length - p.2 = (names.drop p.2).length := by simp
    rw [e]
    refine some_in hp0.2 _ _ _ rfl ?_ ?_
    · rw [szL]; simp; omega
    simp
    refine some_mid hn ps _ _ (fun q hq => hp q (List.mem_cons_of_mem _ hq)) ?_ ?_
    · simp; omega
    · intro s5
      simpa using q s5
/-- some_of's rows -/
theorem some_all {names : List Str} {s1 : Sl} (hn : names.length ≤ 20) (many : Nat) (hm : many ≤ 100) : ∀ (rest : List PyData) (t : Nat) (s5 : Sl), rest.length + t = many →
    (∀ s5, Q (.nx, [.imm (tS names), s1, .imm (.list ((comb names many).map pD)), .any, .any, s5, .any, .any])) →
    (loopM [3, 4, 6, 7] (nName 3) (sSeq (sAsgL 4 (mLst mNil)) (sSeq (sFor [6, 7] (mSeqI (mVar 2)) (nTup 2 (nCons (nName 5) (nCons (nName 6) nNil))) (sFor [7] (mRng rng2 (mCons (mVar 6) (mCons (mCB fLen (mCons (mVar 0) mNil)) mNil))) (nName 7) someApp)) (sFrz [4] (sAsg 2 (mVar 4))))) rest
      [.imm (tS names), s1, .imm (.list ((comb names t).map pD)), .any, .any, s5, .any, .any]).run Q
  | [], t, s5, h, q => by
    have : t = many := by simpa using h
    subst this
    exact q s5
  | d :: r, t, s5, h, q => by
    rw [loop_cons]
    simp
    refine some_mid hn (comb names t) [] _ (fun p hp => ?_) ?_ ?_
    · have := comb_le t p hp
      have h2 := pot_comb names t
      refine ⟨this.1, ?_⟩
      simp at h; omega
    · simpa using pot_comb names t
    · intro s5
      simp
      have := some_all hn many hm r (t + 1) s5 (by rw [List.length_cons] at h; omega) q
      simpa [comb] using this
end
end Law
namespace Law
open PySem Z
/-! ### words that are all different -/
theorem window_nodup {α : Type} {xs : List α} (h : xs.Nodup) {a m : Nat} (ha : a ≤ xs.length) (hm : m ≤ xs.length) : (((xs ++ xs).drop a).take m).Nodup := by
  have e : (xs ++ xs).drop a = xs.drop a ++ xs := by rw [List.drop_append_of_le_length ha]
  rw [e, List.take_append]
  have hp : (xs.drop a ++ xs.take a).Nodup := by
    have h1 : (xs.take a ++ xs.drop a).Nodup := by rw [List.take_append_drop]; exact h
    exact (List.perm_append_comm.nodup_iff).mp h1
  refine hp.sublist ?_
  refine List.Sublist.append (List.take_sublist _ _) ?_
  have h2 : m - (xs.drop a).length ≤ a := by rw [List.length_drop]; omega
  have h3 : xs.take (m - (xs.drop a).length) = (xs.take a).take (m - (xs.drop a).length) := by rw [List.take_take, Nat.min_eq_left h2]
  rw [h3]
  exact List.take_sublist _ _
theorem cut_window {α : Type} {xs : List α} (h : xs.Nodup) {a m : Nat} (ha : a ≤ xs.length) (hm : m ≤ xs.length) : (cutL (xs ++ xs) (some (a : Int)) (some ((a : Int) + m))).Nodup := by
  unfold cutL
  rw [show ((a : Int) + m) = ((a + m : Nat) : Int) by omega, HT.sIx_nat, HT.sIx_nat]
  have e1 : min a (xs ++ xs).length = a := by rw [List.length_append]; omega
  have e2 : min (a + m) (xs ++ xs).length - a = m := by rw [List.length_append]; omega
  rw [e1, e2]
  exact window_nodup h ha hm
def words14 (c d : Nat) : List Str := [⟨#[c]⟩, ⟨#[d]⟩, ⟨#[c, c]⟩, ⟨#[d, c]⟩, ⟨#[c, d]⟩, ⟨#[d, d]⟩, ⟨#[c, c, c]⟩, ⟨#[d, c, c]⟩, ⟨#[c, d, c]⟩, ⟨#[d, d, c]⟩, ⟨#[c, c, d]⟩, ⟨#[d, c, d]⟩, ⟨#[c, d, d]⟩, ⟨#[d, d, d]⟩]
theorem words14_nodup {c d : Nat} (h : c ≠ d) : (words14 c d).Nodup := by
  have h' := Ne.symm h
  simp [words14, h, h']
theorem word_inj {A B : Str} {x y : Nat} (e : A ++ ⟨#[x]⟩ ++ B = A ++ ⟨#[y]⟩ ++ B) : x = y := by
  have h := congrArg (fun z : Str => z.cps.toList) e
  simp [Str.cps_append] at h
  exact h
theorem nodup_map {α β : Type} {f : α → β} : ∀ {l : List α}, l.Nodup → (∀ a ∈ l, ∀ b ∈ l, f a = f b → a = b) → (l.map f).Nodup
  | [], _, _ => List.nodup_nil
  | x :: r, h, hi => by
    rw [List.nodup_cons] at h
    rw [List.map_cons, List.nodup_cons]
    refine ⟨fun hm => ?_, nodup_map h.2 fun a ha b hb => hi a (List.mem_cons_of_mem _ ha) b (List.mem_cons_of_mem _ hb)⟩
    obtain ⟨y, hy, e⟩ := List.mem_map.mp hm
    have := hi y (List.mem_cons_of_mem _ hy) x (List.mem_cons_self ..) e
    exact h.1 (this ▸ hy)
theorem letters_at : ∀ i : Nat, i < 26 → (Str.ofString "abcdefghijklmnopqrstuvwxyz").cps.toList[i]? = some (97 + i) := by decide +kernel
end Law
namespace Law
open PySem Z
theorem keys_sort (ks : List Str) : sortD (ks.map PyData.str) = (ks.mergeSort leO).map PyData.str := sortD_D (α := Str) ks
theorem key_len {base : List Str} {L : List (List Str)} (hb : base.length ≤ 1000) (hL : ∀ s ∈ L, ∀ x ∈ s, x ∈ base) : (keyL L).length ≤ 1000 := by
  have k := KOk.keys (base := base) (L := L) (ks := []) ⟨List.nodup_nil, fun x h => by cases h⟩ hL
  exact Nat.le_trans k.len hb
def opR {α : Type} (o : Option α) (S : α → Prop) (N : Prop) : Prop := match o with
  | some x => S x
  | none => N
@[simp] theorem opR_s {α : Type} (x : α) (S : α → Prop) (N : Prop) : opR (some x) S N = S x := rfl
@[simp] theorem opR_n {α : Type} (S : α → Prop) (N : Prop) : opR none S N = N := rfl
theorem find_loop {α β : Type} {kl : List Nat} {mg : PyData → Z.Env → W Z.Env} {mb : Ms} {Q : Fl × Z.Env → Prop} {t : β → PyData} {R : β → List α} {ret : α → PyData} {p : α → Bool} {env : Z.Env} :
    ∀ (bs : List β), (∀ b ∈ bs, (mg (t b) env).run fun e1 => (mb e1).run fun q => opR ((R b).find? p) (fun x => q.1 = .rt (.im (ret x))) (q.1 = .nx ∧ killE kl q.2 = env)) →
    opR ((bs.flatMap R).find? p) (fun x => ∀ e, Q (.rt (.im (ret x)), e)) (Q (.nx, env)) → (loopM kl mg mb (bs.map t) env).run Q
  | [], _, h => h
  | b :: r, hs, h => by
    rw [List.map_cons, loop_cons]
    refine W.to (hs b (List.mem_cons_self ..)) fun e1 h1 => W.to h1 fun q hq => ?_
    obtain ⟨fl, e2⟩ := q
    rw [List.flatMap_cons, List.find?_append] at h
    cases c : (R b).find? p with
    | some x =>
      rw [c] at h hq
      have hq : fl = .rt (.im (ret x)) := hq
      subst hq
      exact h e2
    | none =>
      rw [c] at h hq
      obtain ⟨rfl, hq⟩ := hq
      simp only [onLp_nx]
      rw [hq]
      exact find_loop r (fun b hb => hs b (List.mem_cons_of_mem _ hb)) (by simpa using h)
theorem rg0 (m : Nat) : rgD 0 m = (List.range m).map fun i : Nat => PyData.int i := by
  unfold rgD
  apply List.map_congr_left
  intro i _
  congr 1
  omega
def optD (o : Option (List Str)) : PyData := match o with
  | some r => tS r
  | none => .none
theorem hit_eq (L : List (List Str)) (row : List Str) : decide (L.filter (fun s => decide (s.filter (fun x => decide (x ∈ row)) = [])) = []) = hit L row := by
  rw [Bool.eq_iff_iff, decide_eq_true_eq, List.filter_eq_nil_iff, hit, List.all_eq_true]
  constructor
  · intro h s hs
    have h1 := h s hs
    rw [decide_eq_true_eq] at h1
    rw [List.any_eq_true]
    obtain ⟨x, hx⟩ := List.exists_mem_of_ne_nil _ h1
    exact ⟨x, (List.mem_filter.mp hx).1, (List.mem_filter.mp hx).2⟩
  · intro h s hs h1
    rw [decide_eq_true_eq] at h1
    have h2 := h s hs
    rw [List.any_eq_true] at h2
    obtain ⟨x, hx, h3⟩ := h2
    have : x ∈ s.filter (fun x => decide (x ∈ row)) := List.mem_filter.mpr ⟨hx, h3⟩
    rw [h1] at this
    cases this
structure SOk (L : List (List Str)) : Prop where
  len : L.length ≤ 1000
  lens : ∀ s ∈ L, s.length ≤ 1000
/-- [name for name in one if name in row] == [] -/
theorem meets_run {QB : Bool → Prop} {env : Z.Env} {s row : List Str} {i j k : Nat} (hs : s.length ≤ 1000) (h1 : gt env i = .imm (tS s)) (h2 : gt env k = .imm (tS row)) (hj : j < env.length) (hik : k ≠ j) (q : QB (decide (s.filter (fun x => decide (x ∈ row)) = []))) :
    (mBool (m2 fEq (mFrz (mLc [j] (mSeqI (mVar i)) (nName j) (mBool (m2 fIn (mVar j) (mVar k))) (mVar j))) (mFrz (mLst mNil))) env).run QB := by
  simp [h1]
  refine ⟨by omega, ?_⟩
  refine lc_typed PyData.str (fun x => decide (x ∈ row)) PyData.str s (fun x hx => ?_) ?_
  · letI := inst0
    have g1 : gt ((env.set j Sl.any).set j (.imm (.str x))) j = .imm (.str x) := by
      rw [gt_set, if_pos]; simp [hj]
    have g2 : gt ((env.set j Sl.any).set j (.imm (.str x))) k = .imm (tS row) := by
      rw [gt_set, if_neg (fun z => hik z.1.symm), gt_set, if_neg (fun z => hik z.1.symm)]; exact h2
    simp only [r_nName, r_mBool, r_m2, r_mVar, g1, g2, onImm_i]
    refine fIn_Dt (α := Str) (by decide) false x row ?_
    simp
  · refine fEq_D (α := List Str) (by decide) _ [] ?_
    simpa using q
theorem erase_map {α β : Type} (f : α → β) : ∀ (xs : List α) (j : Nat), (xs.map f).eraseIdx j = (xs.eraseIdx j).map f
  | [], _ => rfl
  | _ :: _, 0 => rfl
  | x :: r, j + 1 => by simp [List.eraseIdx_cons_succ, erase_map f r j]
theorem lfree_tS (s : List Str) : lfree (tS s) = true := lfree_str s
theorem sortable_SS (L : List (List Str)) : sortable (L.map tS) := by
  rw [map_tS]
  exact sortable_D (α := PySem.W.Tup Str) (by decide) (.inl fun a => ⟨_, rfl⟩) _
theorem sort_SS (L : List (List Str)) : ∃ L' : List (List Str), sortD (L.map tS) = L'.map tS ∧ L'.length = L.length ∧ ∀ s, s ∈ L' ↔ s ∈ L := by
  refine ⟨((L.map PySem.W.Tup.mk).mergeSort leO).map (·.items), ?_, ?_, fun s => ?_⟩
  · rw [map_tS, sortD_D, List.map_map]; rfl
  · simp [List.length_mergeSort]
  · rw [List.mem_map]
    constructor
    · rintro ⟨t, h1, rfl⟩
      rw [List.mem_mergeSort, List.mem_map] at h1
      obtain ⟨u, h2, rfl⟩ := h1
      exact h2
    · intro h
      exact ⟨⟨s⟩, by rw [List.mem_mergeSort]; exact List.mem_map.mpr ⟨s, h, rfl⟩, rfl⟩
/-- least_row says what is due -/
theorem eq_opt (a : Option (List Str)) {Q : PyData → Prop} (q : Q (.bool false)) : (fNe (optD a) (optD a)).run Q := by
  refine ⟨⟨?_, ?_⟩, ?_⟩
  · cases a with
    | none => rfl
    | some r => exact plOk_D (α := PySem.W.Tup Str) (by decide) ⟨r⟩
  · cases a with
    | none => rfl
    | some r => exact plOk_D (α := PySem.W.Tup Str) (by decide) ⟨r⟩
  · have : PyData.eqv (optD a) (optD a) = true := by
      cases a with
      | none => rfl
      | some r =>
        have := PySem.W.Datum.eqv (PySem.W.Tup.mk r) (PySem.W.Tup.mk r)
        rw [decide_eq_true rfl] at this
        exact this
    rw [this]; exact q
theorem atI_in {α : Type} {xs : List α} {x : Int} (h0 : 0 ≤ x) (h1 : x < xs.length) : ∃ y, y ∈ xs ∧ L2.atI xs x = some y := by
  obtain ⟨k, rfl⟩ := Int.eq_ofNat_of_zero_le h0
  have hk : k < xs.length := by omega
  exact ⟨xs[k], List.getElem_mem hk, by rw [atI_nat, List.getElem?_eq_getElem hk]⟩
end Law
namespace Law
open PySem Z
/-! ### words over the first letters -/
abbrev ch (c : Nat) : Str := ⟨#[c]⟩
abbrev chD (c : Nat) : PyData := .str (ch c)
theorem str_ext {a b : Str} (h : a.cps.toList = b.cps.toList) : a = b := by
  obtain ⟨a⟩ := a
  obtain ⟨b⟩ := b
  have : a = b := Array.toList_inj.mp h
  rw [this]
theorem joinL_nil : ∀ ps : List (List Nat), TL.joinL [] ps = ps.flatten
  | [] => rfl
  | [p] => by simp [TL.joinL]
  | p :: q :: r => by
    have := joinL_nil (q :: r)
    simp [TL.joinL, this]
theorem join_ch (cs : List Nat) : Txt.join "" (cs.map ch) = ⟨cs.toArray⟩ := by
  refine str_ext ?_
  rw [TL.join_eq]
  have h := TL.tl_join ("" : Str) (cs.map ch)
  have e : TL.tl ("" : Str) = [] := by decide +kernel
  rw [e, joinL_nil] at h
  have h2 : (Str.join "" (cs.map ch)).cps.toList = ((cs.map ch).map TL.tl).flatten := h
  rw [h2]
  clear h h2 e
  induction cs with
  | nil => rfl
  | cons c r ih => simp [TL.tl] at ih ⊢; exact ih
theorem mulOk_s {x : Str} {n : Int} (hx : x.length ≤ 1000) (hn : n ≤ 1000 ∧ 0 ≤ n) : MulOk x n := by
  unfold MulOk
  refine ⟨by simp; omega, fun h1 _ => ?_, fun h1 _ => ?_⟩
  · have h3 : (1000 : Int) ≤ (2 ^ 63 - 1) / n := by
      rw [Int.le_ediv_iff_mul_le (by omega)]
      omega
    omega
  · unfold Builtin.Str.tooLong
    have : x.length * n.toNat ≤ 1000 * 1000 := Nat.mul_le_mul hx (by omega)
    rw [decide_eq_false_iff_not, szL]
    omega
def WOk (n l : Nat) (w : Str) : Prop := w.length = n ∧ ∀ c ∈ w.cps.toList, 97 ≤ c ∧ c < 97 + l
theorem chars_of {P : Nat → Prop} : ∀ ys : List PyData, (∀ y ∈ ys, ∃ c, y = chD c ∧ P c) → ∃ cs : List Nat, ys = cs.map chD ∧ ∀ c ∈ cs, P c
  | [], _ => ⟨[], rfl, fun _ h => by cases h⟩
  | y :: r, h => by
    obtain ⟨c, rfl, hc⟩ := h y (List.mem_cons_self ..)
    obtain ⟨cs, rfl, h2⟩ := chars_of r fun z hz => h z (List.mem_cons_of_mem _ hz)
    exact ⟨c :: cs, rfl, fun z hz => (List.mem_cons.mp hz).elim (fun e => e ▸ hc) (h2 z)⟩
abbrev ltrs (l : Nat) : Str := L2.cutS "abcd" none (some (l : Int))
theorem abcd_list : (Str.ofString "abcd").cps.toList = [97, 98, 99, 100] := by decide +kernel
theorem ltrs_list (l : Nat) : (ltrs l).cps.toList = [97, 98, 99, 100].take l := by
  unfold ltrs; rw [cutS_lo]; rw [show (("abcd" : Str)).cps.toList = [97, 98, 99, 100] from abcd_list]
theorem ltrs_len {l : Nat} (h : l ≤ 4) : (ltrs l).length = l := by
  have := congrArg List.length (ltrs_list l)
  rw [Array.length_toList] at this
  show (ltrs l).cps.size = l
  rw [this]; simp; omega
theorem ltr_at {l : Nat} (hl : l ≤ 4) {x : Int} (h0 : 0 ≤ x) (h1 : x < l) : L2.atI (ltrs l).cps.toList x = some (97 + x.toNat) := by
  obtain ⟨k, rfl⟩ := Int.eq_ofNat_of_zero_le h0
  rw [atI_nat, ltrs_list]
  have : k < l := by omega
  match l, k, hl, this with
  | 1, 0, _, _ => rfl
  | 2, 0, _, _ => rfl
  | 2, 1, _, _ => rfl
  | 3, 0, _, _ => rfl
  | 3, 1, _, _ => rfl
  | 3, 2, _, _ => rfl
  | 4, 0, _, _ => rfl
  | 4, 1, _, _ => rfl
  | 4, 2, _, _ => rfl
  | 4, 3, _, _ => rfl
theorem sum_ones (cs : List Nat) : ((cs.map ch).map (fun s : Str => s.length)).sum = cs.length := by
  induction cs with
  | nil => rfl
  | cons c r ih => rw [List.map_cons, List.map_cons, List.sum_cons, ih, List.length_cons]; show 1 + _ = _; omega
theorem joinOf_l {a : Str} {ys : List Str} {Q : PyData → Prop} (h : (ys.map (·.length)).sum + ys.length * a.length ≤ 16777216) (q : Q (.str (Txt.join a ys))) : (joinOf a (.list (ys.map .str))).run Q := by
  letI := inst0
  simp only [joinOf, strsD_map]
  exact ⟨h, q⟩
theorem word_join {cs : List Nat} (hl : cs.length ≤ 1000) {Q : PyData → Prop} (q : Q (.str ⟨cs.toArray⟩)) : (joinOf "" (.list (cs.map chD))).run Q := by
  have e : cs.map chD = (cs.map ch).map PyData.str := by rw [List.map_map]; rfl
  rw [e]
  refine joinOf_l ?_ (by rw [join_ch]; exact q)
  rw [sum_ones]
  have : ("" : Str).length = 0 := by decide +kernel
  rw [this]; omega
theorem cut_mid {α : Type} (xs : List α) (a b : Nat) (h : a ≤ xs.length) : cutL xs (some (a : Int)) (some (b : Int)) = (xs.drop a).take (b - a) := by
  unfold cutL
  rw [HT.sIx_nat, HT.sIx_nat, Nat.min_eq_left h]
  rcases Nat.le_total b xs.length with h2 | h2
  · rw [Nat.min_eq_left h2]
  · rw [Nat.min_eq_right h2, List.take_of_length_le (by rw [List.length_drop]; omega), List.take_of_length_le (by rw [List.length_drop]; omega)]
@[simp] theorem r_mJoin {mo ma : Z.Env → W PyData} {e : Z.Env} {Q : PyData → Prop} : (mJoin mo ma e).run Q = (mo e).run fun a => (asStr a).run fun z => (ma e).run fun b => (joinOf z b).run Q := rfl
@[simp] theorem asStr_s (z : Str) : asStr (.str z) = pure z := rfl
end Law
namespace Law
open PySem Z
/-! ### loops and comprehensions over typed things, where each turn leaves the state as it was -/
theorem each_loop {α : Type} {t : α → PyData} (P : α → Prop) {kl : List Nat} {mg : PyData → Z.Env → W Z.Env} {mb : Ms} {env : Z.Env} {Q : Fl × Z.Env → Prop}
    (hs : ∀ a, P a → (mg (t a) env).run fun e1 => (mb e1).run fun q => onLp q (fun e2 => killE kl e2 = env) (fun _ => False) (fun _ => False)) : ∀ as : List α, (∀ a ∈ as, P a) → Q (.nx, env) → (loopM kl mg mb (as.map t) env).run Q
  | [], _, q => q
  | a :: as, h, q => by
    rw [List.map_cons, loop_cons]
    refine W.to (hs a (h a (List.mem_cons_self ..))) fun e1 h1 => W.to h1 fun r hr => ?_
    obtain ⟨fl, e2⟩ := r
    cases fl with
    | nx =>
      have hr : killE kl e2 = env := hr
      show (loopM kl mg mb (as.map t) (killE kl e2)).run Q
      rw [hr]
      exact each_loop P hs as (fun x hx => h x (List.mem_cons_of_mem _ hx)) q
    | ct =>
      have hr : killE kl e2 = env := hr
      show (loopM kl mg mb (as.map t) (killE kl e2)).run Q
      rw [hr]
      exact each_loop P hs as (fun x hx => h x (List.mem_cons_of_mem _ hx)) q
    | bk => exact hr.elim
    | rt v => exact hr.elim
/-- a loop that ends with a value at the first thing that is not so -/
theorem all_loop {α : Type} {t : α → PyData} {p : α → Bool} {ret : Rv} {kl : List Nat} {mg : PyData → Z.Env → W Z.Env} {mb : Ms} {env : Z.Env} {Q : Fl × Z.Env → Prop} : ∀ as : List α,
    (∀ a ∈ as, (mg (t a) env).run fun e1 => (mb e1).run fun q => if p a = true then q.1 = .nx ∧ killE kl q.2 = env else q.1 = .rt ret) →
    (if as.all p = true then Q (.nx, env) else ∀ e, Q (.rt ret, e)) → (loopM kl mg mb (as.map t) env).run Q
  | [], _, q => q
  | a :: as, h, q => by
    rw [List.map_cons, loop_cons]
    refine W.to (h a (List.mem_cons_self ..)) fun e1 h1 => W.to h1 fun r hr => ?_
    obtain ⟨fl, e2⟩ := r
    rw [List.all_cons] at q
    cases c : p a with
    | true =>
      rw [c, if_pos rfl] at hr
      obtain ⟨e3, e4⟩ := hr
      simp only at e3 e4
      subst e3
      show (loopM kl mg mb (as.map t) (killE kl e2)).run Q
      rw [e4]
      exact all_loop as (fun x hx => h x (List.mem_cons_of_mem _ hx)) (by rw [c, Bool.true_and] at q; exact q)
    | false =>
      rw [c, if_neg (by decide)] at hr
      simp only at hr
      subst hr
      rw [c, Bool.false_and, if_neg (by decide)] at q
      exact q e2
theorem pick_of {α : Type} {t : α → PyData} {R : α → Prop} : ∀ ys : List PyData, (∀ y ∈ ys, ∃ a, y = t a ∧ R a) → ∃ as : List α, ys = as.map t ∧ ∀ a ∈ as, R a
  | [], _ => ⟨[], rfl, fun _ h => by cases h⟩
  | y :: r, h => by
    obtain ⟨a, rfl, ha⟩ := h y (List.mem_cons_self ..)
    obtain ⟨as, rfl, h2⟩ := pick_of r fun z hz => h z (List.mem_cons_of_mem _ hz)
    exact ⟨a :: as, rfl, fun z hz => (List.mem_cons.mp hz).elim (fun e => e ▸ ha) (h2 z)⟩
/-- a comprehension each item of which may be any of many -/
theorem lc_any {α β : Type} {mg : PyData → Z.Env → W Z.Env} {mt : Z.Env → W Bool} {me : Z.Env → W PyData} {e : Z.Env} (s : β → PyData) (t : α → PyData) (R : α → Prop) (xs : List β)
    (h : ∀ x ∈ xs, (mg (s x) e).run fun e1 => (mt e1).run fun b => b = true ∧ (me e1).run fun y => ∃ a, y = t a ∧ R a) {QL : List PyData → Prop}
    (q : ∀ as : List α, as.length = xs.length → (∀ a ∈ as, R a) → QL (as.map t)) : (lcM mg mt me e (xs.map s)).run QL := by
  refine lc_some s (fun y => ∃ a, y = t a ∧ R a) xs h fun ys h1 h2 => ?_
  obtain ⟨as, rfl, h3⟩ := pick_of ys h2
  exact q as (by simpa using h1) h3
theorem cutS_one {w : Str} {p c : Nat} (h : w.cps.toList[p]? = some c) : L2.cutS w (some (p : Int)) (some ((p : Int) + 1)) = ⟨#[c]⟩ := by
  have hp : p < w.length := by
    have := (List.getElem?_eq_some_iff.mp h).1
    rwa [Array.length_toList] at this
  have e : ((p : Int) + 1) = ((p + 1 : Nat) : Int) := by omega
  unfold L2.cutS
  rw [e, HT.sIx_nat, HT.sIx_nat, Nat.min_eq_left (by omega), Nat.min_eq_left (by omega)]
  have e2 : p + 1 - p = 1 := by omega
  rw [e2]
  have hl : p < w.cps.toList.length := by rw [Array.length_toList]; exact hp
  rw [List.drop_eq_getElem_cons hl, (List.getElem?_eq_some_iff.mp h).2]
  rfl
theorem SS_D (A : List (List Str)) : tupSS A = tD (PySem.W.Tup.mk (A.map PySem.W.Tup.mk)) := by
  show PyData.tuple _ = PyData.tuple _
  congr 1
  show _ = (A.map PySem.W.Tup.mk).map tD
  rw [List.map_map]; rfl
theorem mk_inj {A B : List (List Str)} : (PySem.W.Tup.mk (A.map PySem.W.Tup.mk) : PySem.W.Tup (PySem.W.Tup Str)) = PySem.W.Tup.mk (B.map PySem.W.Tup.mk) ↔ A = B := by
  constructor
  · intro h
    injection h with h
    have e : ∀ L : List (List Str), (L.map PySem.W.Tup.mk).map (·.items) = L := fun L => by rw [List.map_map]; simp [Function.comp_def]
    rw [← e A, h, e]
  · intro h; rw [h]
theorem fEq_SS (A B : List (List Str)) {Q : PyData → Prop} (q : Q (.bool (decide (A = B)))) : (fEq (tupSS A) (tupSS B)).run Q := by
  rw [SS_D, SS_D]
  refine fEq_D (by decide) _ _ ?_
  rw [decide_eq_decide.mpr mk_inj]; exact q
theorem fNe_SS (A B : List (List Str)) {Q : PyData → Prop} (q : Q (.bool (!decide (A = B)))) : (fNe (tupSS A) (tupSS B)).run Q := by
  rw [SS_D, SS_D]
  refine fNe_D (by decide) _ _ ?_
  rw [decide_eq_decide.mpr mk_inj]; exact q
theorem mk_inj1 {a b : List Str} : (PySem.W.Tup.mk a : PySem.W.Tup Str) = PySem.W.Tup.mk b ↔ a = b := ⟨fun h => by injection h, fun h => by rw [h]⟩
theorem fEq_T (a b : List Str) {Q : PyData → Prop} (q : Q (.bool (decide (a = b)))) : (fEq (tupS a) (tupS b)).run Q := by
  refine fEq_D (α := PySem.W.Tup Str) (by decide) ⟨a⟩ ⟨b⟩ ?_
  rw [decide_eq_decide.mpr mk_inj1]; exact q
theorem fNe_T (a b : List Str) {Q : PyData → Prop} (q : Q (.bool (!decide (a = b)))) : (fNe (tupS a) (tupS b)).run Q := by
  refine fNe_D (α := PySem.W.Tup Str) (by decide) ⟨a⟩ ⟨b⟩ ?_
  rw [decide_eq_decide.mpr mk_inj1]; exact q
theorem fEq_Ls (a b : List Str) {Q : PyData → Prop} (q : Q (.bool (decide (a = b)))) : (fEq (.list (a.map .str)) (.list (b.map .str))).run Q := fEq_D (α := List Str) (by decide) a b q
theorem fNe_Ls (a b : List Str) {Q : PyData → Prop} (q : Q (.bool (!decide (a = b)))) : (fNe (.list (a.map .str)) (.list (b.map .str))).run Q := fNe_D (α := List Str) (by decide) a b q
end Law
namespace Law
open PySem Z
theorem set_same {e : Z.Env} {j : Nat} {s : Sl} (h : gt e j = s) : e.set j s = e := by
  refine List.ext_getElem? fun k => ?_
  rw [List.getElem?_set]
  split
  · rename_i c
    subst c
    split
    · rename_i hj
      rw [List.getElem?_eq_getElem hj, ← h]
      unfold gt
      rw [List.getD_eq_getElem?_getD, List.getElem?_eq_getElem hj]; rfl
    · rename_i hj
      rw [List.getElem?_eq_none (by omega)]
  · rfl
theorem gt_put {e : Z.Env} {i j : Nat} {s : Sl} (h : i ≠ j) : gt (e.set i s) j = gt e j := by
  letI := inst0
  rw [gt_set, if_neg (fun z => h z.1)]
theorem gt_own {e : Z.Env} {j : Nat} {s : Sl} (h : j < e.length) : gt (e.set j s) j = s := by
  letI := inst0
  rw [gt_set, if_pos ⟨rfl, h⟩]
theorem gt_lend {e : Z.Env} {i : Nat} : gt (e.map lendS) i = lendS (gt e i) := by
  unfold gt
  rw [List.getD_eq_getElem?_getD, List.getD_eq_getElem?_getD, List.getElem?_map]
  cases e[i]? <;> rfl
/-- things popped at drawn places -/
theorem pops_loop {α : Type} {t : α → PyData} {dk i j o : Nat} (hij : i ≠ j) (hi : i ≠ o) (hj : j ≠ o) {P : List PyData × Z.Env → Prop} : ∀ (ds : List PyData) (xs : List α) (e : Z.Env), e.set i .any = e → j < e.length → gt e o = .opq dk → gt e j = .lst (xs.map t) → xs.length ≤ 1000000 → ds.length ≤ xs.length →
    (∀ out rest : List α, out.length = ds.length → (out ++ rest).Perm xs → P (out.map t, e.set j (.lst (rest.map t)))) →
    (lcMM [i] i (mPopAt j (mLend (mCall 2 m_law_draw (aOpq o (aCons (mCB fLen (mCons (mVar j) mNil)) aNil))))) ds e).run P
  | [], xs, e, _, _, _, h2, _, _, q => by
    have := q [] xs rfl (by simp)
    rw [set_same h2] at this
    simpa using this
  | d :: ds, xs, e, he, hjl, h1, h2, hx, hl, q => by
    rw [List.length_cons] at hl
    rw [lcMM_cons]
    have g0 : gt (e.set i (.imm d)) o = .opq dk := by rw [gt_put hi]; exact h1
    have gj : gt (e.set i (.imm d)) j = .lst (xs.map t) := by rw [gt_put hij]; exact h2
    have gl0 : gt ((e.set i (.imm d)).map lendS) o = .opq dk := by rw [gt_lend, g0]; rfl
    have glj : gt ((e.set i (.imm d)).map lendS) j = .imm (.list (xs.map t)) := by rw [gt_lend, gj]; rfl
    simp only [r_mPopAt, r_mLend, r_mCall, r_aOpq, r_aCons, r_aNil, r_mCB, r_mCons, r_mNil, r_mVar, gl0, glj, gj, onOpq_i, onImm_i, fLen_l, run_pure, asL_lst, r_mNext, List.length_map, List.length_cons, List.length_nil]
    refine ⟨trivial, ⟨by omega, by omega⟩, fun y hy => ?_⟩
    obtain ⟨k, x, ek, ex, ea⟩ := at_some (t := t) (xs := xs) hy.1 hy.2
    have hk : k < xs.length := (List.getElem?_eq_some_iff.mp ex).1
    subst ek
    simp only [asIm_im, run_pure, lfree_i, onI_i, Int.toNat_natCast, List.getElem?_map, ex, Option.map_some, onSome_s, true_and, erase_map']
    refine ⟨⟨by omega, by omega⟩, ?_⟩
    have pm := erase_perm xs k x ex
    have le : (xs.eraseIdx k).length = xs.length - 1 := by rw [List.length_eraseIdx, if_pos hk]
    have ew : wipeE ((e.set i (.imm d)).set j (.lst ((xs.eraseIdx k).map t))) [i] = e.set j (.lst ((xs.eraseIdx k).map t)) := by
      show ((e.set i (.imm d)).set j (.lst ((xs.eraseIdx k).map t))).set i .any = _
      rw [List.set_comm _ _ hij, List.set_set]
      conv => rhs; rw [← he]
      rw [List.set_comm _ _ hij]
    rw [ew]
    refine pops_loop hij hi hj ds (xs.eraseIdx k) _ ?_ (by simpa using hjl) (by rw [gt_put hj]; exact h1) (gt_own hjl) (by omega) (by omega) fun out rest h3 h4 => ?_
    · conv => rhs; rw [← he]
      rw [List.set_comm _ _ (Ne.symm hij)]
    · have := q (x :: out) rest (by simp [h3]) ((h4.cons x).trans pm)
      rw [List.set_set]
      simpa using this
abbrev az : Str := "abcdefghijklmnopqrstuvwxyz"
theorem az_list : (Str.ofString "abcdefghijklmnopqrstuvwxyz").cps.toList = List.range' 97 26 := by decide +kernel
theorem az_len : (Str.ofString "abcdefghijklmnopqrstuvwxyz").length ≤ 16777216 := by decide +kernel
theorem az_at {x : Int} (h0 : 0 ≤ x) (h1 : x < 26) : L2.atI (Str.ofString "abcdefghijklmnopqrstuvwxyz").cps.toList x = some (97 + x.toNat) := by
  obtain ⟨k, rfl⟩ := Int.eq_ofNat_of_zero_le h0
  rw [atI_nat, az_list, List.getElem?_range' (by omega)]
  simp
theorem az_lc {dk n j : Nat} (hj : j ≠ 0 ∧ j ≠ 2) {e : Z.Env} (h0 : gt e 0 = .opq dk) (h2 : gt e 2 = .imm (.str az)) {QL : List PyData → Prop} (q : ∀ cs : List Nat, cs.length = n → QL (cs.map chD)) :
    (lcM (nName j) mYes (m2 fIx (mVar 2) (mCall 2 m_law_draw (aOpq 0 (aCons (mC (.int 26)) aNil)))) e (rgD 0 n)).run QL := by
  rw [rg_nat]
  refine lc_some (fun i : Nat => PyData.int i) (fun y => ∃ c, y = chD c ∧ True) (List.range n) (fun x _ => ?_) fun ys hy1 hy2 => ?_
  · have g0 : gt (e.set j (.imm (.int x))) 0 = .opq dk := by
      letI := inst0
      rw [gt_set, if_neg (fun z => hj.1 z.1)]; exact h0
    have g2 : gt (e.set j (.imm (.int x))) 2 = .imm (.str az) := by
      letI := inst0
      rw [gt_set, if_neg (fun z => hj.2 z.1)]; exact h2
    simp [g0, g2]
    intro y y0 y1
    rw [az_at y0 y1]
    simp
    exact az_len
  · obtain ⟨cs, rfl, hc⟩ := chars_of ys hy2
    exact q cs (by simpa using hy1)
theorem spare_loop {dk : Nat} {s1 : Sl} {begin_ place : Nat} {near : Str} {alike : Int} (hb : begin_ < 26) (hn : near.length ≤ 100) (ha : alike = 0 ∨ alike = 1) {Q : Fl × Z.Env → Prop} : ∀ (rest : List Nat) (sp : List Str), (∀ t ∈ rest, t < 12) → sp.length + rest.length ≤ 24 →
    (∀ sp2 : List Str, sp2.length = sp.length + rest.length → Q (.nx, [.opq dk, s1, .imm (.str az), .lst (sp2.map .str), .imm (.int begin_), .imm (.str near), .imm (.int place), .imm (.int alike), .any, .any])) →
    (loopM [8, 9] (nName 8) lb_law_names_1 (rest.map fun k : Nat => PyData.int k) [.opq dk, s1, .imm (.str az), .lst (sp.map .str), .imm (.int begin_), .imm (.str near), .imm (.int place), .imm (.int alike), .any, .any]).run Q
  | [], sp, _, _, q => by simpa using q sp (by simp)
  | k :: rest, sp, hk, hl, q => by
    rw [List.length_cons] at hl
    have hk0 := hk k (List.mem_cons_self ..)
    rw [List.map_cons, loop_cons]
    obtain ⟨j, ek⟩ : ∃ j : Nat, ((begin_ : Int) + k) % 26 = j := ⟨((begin_ + k) % 26 : Nat), by push_cast; rfl⟩
    have hj := Int.emod_lt_of_pos ((begin_ : Int) + k) (show (0 : Int) < 26 by decide)
    have a1 : L2.atI az.cps.toList (j : Int) = some (97 + j) := az_at (x := (j : Int)) (by omega) (by omega)
    simp [ek]
    rw [a1]
    simp
    have h6 : az.length ≤ 16777216 := az_len
    have c1 : (L2.cutS near none (some (place : Int))).length ≤ near.length := cutS_len ..
    have c2 : (L2.cutS near (some (place : Int)) (some ((begin_ : Int) % 8))).length ≤ near.length := cutS_len ..
    have e7 : ∀ c : Nat, (⟨#[c]⟩ : Str).length = 1 := fun _ => rfl
    have hq : ∀ k : Nat, k < 12 → (Txt.mul (Str.ofString "q") (1 + (k : Int) % 7)).length ≤ 10 := by decide +kernel
    have hq1 : (Str.ofString "q").length ≤ 1000 := by decide +kernel
    have hqk := hq k hk0
    refine ⟨h6, mulOk_s hq1 (by omega), by rw [e7]; omega, by omega, by rw [e7]; omega, by omega, by rw [len_add, e7]; omega, ?_⟩
    have go : ∀ w : Str, sp.length < 16777216 ∧ (loopM [8, 9] (nName 8) lb_law_names_1 (rest.map fun k : Nat => PyData.int k) [.opq dk, s1, .imm (.str az), .lst (sp.map .str ++ [.str w]), .imm (.int begin_), .imm (.str near), .imm (.int place), .imm (.int alike), .any, .any]).run Q := fun w => by
      have := spare_loop (dk := dk) (s1 := s1) (place := place) hb hn ha rest (sp ++ [w]) (fun t ht => hk t (List.mem_cons_of_mem _ ht)) (by simp; omega) (Q := Q) (fun sp2 h2 => q sp2 (by simp at h2 ⊢; omega))
      exact ⟨by omega, by simpa using this⟩
    rcases ha with rfl | rfl
    · exact go _
    · exact go _
@[simp] theorem r_mSlL {m : Z.Env → W PyData} {e : Z.Env} (ml mh : Z.Env → W (Option Int)) {QL : List PyData → Prop} : (mSlL m ml mh e).run QL = (m e).run fun a => (ml e).run fun l => (mh e).run fun h => (slL a l h).run QL := rfl
@[simp] theorem slL_l (ds : List PyData) (lo hi : Option Int) : slL (.list ds) lo hi = pure (cutL ds lo hi) := rfl
theorem lfree_strs : ∀ xs : List Str, lfreeAll (xs.map .str) = true
  | [] => rfl
  | x :: r => by simpa [lfreeAll, lfree] using lfree_strs r
theorem r_law_names {Q : Rv → Prop} {dk m : Nat} (hm : m ≤ 12) (q : ∀ ws : List Str, ws.length = m → Q (.fr (ws.map .str))) : (m_law_names [.opq dk, .imm (.int m)]).run Q := by
  unfold m_law_names
  simp [ms_law_names, List.replicate_succ]
  intro x x0 x1
  obtain ⟨x, rfl⟩ := Int.eq_ofNat_of_zero_le x0
  refine ⟨by rw [rgD_len]; decide, ?_⟩
  refine az_lc (n := 6) (by decide) rfl rfl fun cs h1 => ?_
  refine word_join (by omega) ?_
  have a1 : L2.atI az.cps.toList (x : Int) = some (97 + x) := az_at (x := (x : Int)) (by omega) (by omega)
  have h8 : (⟨cs.toArray⟩ : Str).length = 6 := by show cs.toArray.size = 6; simpa using h1
  have e7 : ∀ c : Nat, (⟨#[c]⟩ : Str).length = 1 := fun _ => rfl
  have h6 : az.length ≤ 16777216 := az_len
  rw [a1]
  simp
  refine ⟨h6, by rw [h8, e7]; omega, ?_⟩
  intro y y0 y1 z z0 z1
  obtain ⟨y, rfl⟩ := Int.eq_ofNat_of_zero_le y0
  have eW : [PyData.str (Str.ofString "a"), PyData.str (Str.ofString "b"), PyData.str (Str.ofString "ab"), PyData.str (Str.ofString "ba"), PyData.str (Str.ofString "sets"), PyData.str (Str.ofString "put"), PyData.str (Str.ofString "take"), PyData.str (Str.ofString "core"), PyData.str (Str.ofString "way"), PyData.str (Str.ofString "row"), PyData.str (Str.ofString "none"), PyData.str (Str.ofString "near")] = (["a", "b", "ab", "ba", "sets", "put", "take", "core", "way", "row", "none", "near"] : List Str).map .str := rfl
  rw [eW]
  have hcut : ∃ sp : List Str, cutL ((["a", "b", "ab", "ba", "sets", "put", "take", "core", "way", "row", "none", "near"] : List Str).map PyData.str) (some (12 * z)) none = sp.map .str ∧ sp.length ≤ 12 := by
    refine ⟨cutL (["a", "b", "ab", "ba", "sets", "put", "take", "core", "way", "row", "none", "near"] : List Str) (some (12 * z)) none, cutL_map .., ?_⟩
    unfold cutL
    rw [List.length_take, List.length_drop]
    simp
    omega
  obtain ⟨sp, e1, hsp⟩ := hcut
  have hz : z = 0 ∨ z = 1 := by omega
  refine ⟨cm_of (by decide), ?_⟩
  rw [e1]
  clear e1 eW
  refine ⟨lfree_strs sp, ?_⟩
  rw [rg_nat, show ((y : Int) + (x : Int) % 2) = ((y + x % 2 : Nat) : Int) by push_cast; rfl]
  have hnear : ((⟨cs.toArray⟩ : Str) ++ (⟨#[97 + x]⟩ : Str)).length ≤ 100 := by rw [len_add, h8, e7]; omega
  generalize ((⟨cs.toArray⟩ : Str) ++ (⟨#[97 + x]⟩ : Str)) = near at *
  have hR : ∀ t ∈ List.range 12, t < 12 := fun t ht => List.mem_range.mp ht
  have hR2 : (List.range 12).length = 12 := List.length_range
  generalize List.range 12 = R at *
  refine spare_loop (dk := dk) (s1 := .imm (.int m)) (begin_ := x) (place := y + x % 2) (near := near) (alike := z) (by omega) hnear hz R sp hR (by omega) fun sp2 h2 => ?_
  simp
  refine ⟨by omega, by rw [rgD_len]; omega, ?_⟩
  refine pops_loop (by decide) (by decide) (by decide) _ sp2 _ rfl (by simp) rfl rfl (by omega) (by rw [rgD_len]; omega) fun out rest k1 k2 => ?_
  rw [rgD_len] at k1
  exact q out k1
end Law
namespace Law
open PySem Z
/-! ### collections of sets, drawn -/
theorem seq_any {α : Type} {env : α → Z.Env} {P : α → Prop} {sa sb : Ms} {e : Z.Env} {Q : Fl × Z.Env → Prop} (h : (sa e).run fun r => r.1 = .nx ∧ ∃ a, P a ∧ r.2 = env a) (g : ∀ a, P a → (sb (env a)).run Q) : (sSeq sa sb e).run Q := by
  rw [r_sSeq]
  refine W.to h fun r hr => ?_
  obtain ⟨fl, e2⟩ := r
  obtain ⟨h1, a, h2, h3⟩ := hr
  simp only at h1 h3
  subst h1 h3
  exact g a h2
/-- a comprehension with a test that may be either -/
theorem lc_pick {β : Type} {t u : β → PyData} {mg : PyData → Z.Env → W Z.Env} {mt : Z.Env → W Bool} {me : Z.Env → W PyData} {e : Z.Env} : ∀ (xs : List β), (∀ x ∈ xs, (mg (t x) e).run fun e1 => (mt e1).run fun b => b = true → (me e1).run fun y => y = u x) →
    ∀ {QL : List PyData → Prop}, (∀ ys : List β, (∀ y ∈ ys, y ∈ xs) → ys.length ≤ xs.length → QL (ys.map u)) → (lcM mg mt me e (xs.map t)).run QL
  | [], _, QL, q => q [] (fun _ h => by cases h) (Nat.le_refl _)
  | x :: r, h, QL, q => by
    rw [List.map_cons, lc_cons]
    refine W.to (h x (List.mem_cons_self ..)) fun e1 h1 => W.to h1 fun b hb => ?_
    have ih : ∀ {QL : List PyData → Prop}, (∀ ys : List β, (∀ y ∈ ys, y ∈ r) → ys.length ≤ r.length → QL (ys.map u)) → (lcM mg mt me e (r.map t)).run QL := fun {QL} q => lc_pick r (fun x hx => h x (List.mem_cons_of_mem _ hx)) q
    cases b with
    | true =>
      rw [if_pos rfl]
      refine W.to (hb rfl) fun y hy => ?_
      subst hy
      exact ih fun ys y1 y2 => q (x :: ys) (fun z hz => (List.mem_cons.mp hz).elim (fun e => e ▸ List.mem_cons_self ..) fun hz => List.mem_cons_of_mem _ (y1 z hz)) (by simpa using y2)
    | false =>
      rw [if_neg (by decide)]
      exact ih fun ys y1 y2 => q ys (fun z hz => List.mem_cons_of_mem _ (y1 z hz)) (by rw [List.length_cons]; omega)
theorem enum_str : ∀ (T : List Str) (k : Nat), enumD k (T.map .str) = (T.zipIdx k).map fun p => PyData.tuple [.int p.2, .str p.1]
  | [], _ => rfl
  | s :: r, k => by rw [List.map_cons, enumD_c, enum_str r (k + 1)]; rfl
def SetIn (names s : List Str) : Prop := s.Pairwise lO ∧ s.length ≤ 6 ∧ ∀ x ∈ s, x ∈ names
def SubN (names b : List Str) : Prop := (∀ x ∈ b, x ∈ names) ∧ b.length ≤ 100
theorem cutL_le {α : Type} (xs : List α) (lo hi : Option Int) : (cutL xs lo hi).length ≤ xs.length := by
  unfold cutL
  rw [List.length_take, List.length_drop]; omega
theorem str_map (xs : List Str) (lo hi : Option Int) : cutL (xs.map PyData.str) lo hi = (cutL xs lo hi).map .str := cutL_map ..
abbrev sEnv (dk : Nat) (s1 s2 : Sl) (names : List Str) (kind : Nat) (core : List Str) (parts : Nat) (L : List (List Str)) (k own s11 : Sl) : Z.Env :=
  [.opq dk, s1, s2, .imm (.list (names.map .str)), .imm (.int kind), .imm (.list (core.map .str)), .imm (.int parts), .lst (L.map tupS), k, own, .any, s11]
abbrev sE (dk : Nat) (s1 s2 : Sl) (names : List Str) (kind : Nat) (core : List Str) (parts : Nat) (L : List (List Str)) (k : Nat) (own : List Str) : Z.Env := sEnv dk s1 s2 names kind core parts L (.imm (.int k)) (.imm (.list (own.map .str))) .any
def sTail : Ms := (sSeq (sIf (mBool (m2 fEq (mVar 4) (mC (.int 2)))) (sAsg 9 (m2 fAdd (m2 fAdd (mVar 5) (mSl (mVar 9) mNoPart (mPart (mC (.int 1))))) (mFrz (mLc [11, 10] (mEnum (mCons (mVar 3) mNil)) (nTup 2 (nCons (nName 11) (nCons (nName 10) nNil))) (mBool (m2 fEq (m2 fMod (mVar 11) (mVar 6)) (m2 fMod (mVar 8) (mVar 6)))) (mVar 10))))) sNil)
    (sSeq (sIf (mBool (m2 fEq (mVar 4) (mC (.int 3)))) (sAsg 9 (mFrz (mLst (mCons (m2 fIx (mVar 3) (mCall 2 m_law_draw (aOpq 0 (aCons (mCB fLen (mCons (mVar 3) mNil)) aNil)))) (mCons (m2 fIx (mVar 3) (mCall 2 m_law_draw (aOpq 0 (aCons (mCB fLen (mCons (mVar 3) mNil)) aNil)))) mNil))))) sNil)
    (sSeq (sIf (mBool (m2 fEq (mVar 4) (mC (.int 4)))) (sAsg 9 (mSl (mVar 3) mNoPart (mPart (mCall 2 m_law_draw (aOpq 0 (aCons (m2 fAdd (mCB fLen (mCons (mVar 3) mNil)) (mC (.int 1))) aNil)))))) sNil)
    (sApp 7 (mCB fTupOf (mCons (mFrz (mCBL fSorted (mCons (mSl (mFrz (mCBL fSortSet (mCons (mVar 9) mNil))) mNoPart (mPart (mC (.int 6)))) mNil))) mNil))))))
theorem sets_eq (e : Z.Env) (Q : Fl × Z.Env → Prop) : (lb_law_sets_1 e).run Q = ((sSeq (sAsg 9 (mFrz (mLc [10] (mSeqI (mVar 3)) (nName 10) (mBool (m2 fEq (mCall 2 m_law_draw (aOpq 0 (aCons (m2 fIx (mFrz (mLst (mCons (mC (.int 2)) (mCons (mC (.int 4)) (mCons (mC (.int 9)) (mCons (mC (.int 9)) (mCons (mC (.int 9)) mNil))))))) (mVar 4)) aNil))) (mC (.int 0)))) (mVar 10))))
    sTail) e).run Q := rfl
theorem r_sTail {dk : Nat} {s1 s2 : Sl} {names core : List Str} {kind parts : Nat} {L : List (List Str)} {k : Nat} (hn : 1 ≤ names.length ∧ names.length ≤ 12) (hp : 1 ≤ parts) (hc : SubN names core) (hc2 : core.length ≤ 12) (hk : k < 100) (hl : L.length < 1000) {own : List Str} (ho : SubN names own) {Q : Fl × Z.Env → Prop}
    (q : ∀ (s : List Str) (s9 : Sl), SetIn names s → Q (.nx, sEnv dk s1 s2 names kind core parts (L ++ [s]) (.imm (.int k)) s9 .any)) :
    (sTail (sE dk s1 s2 names kind core parts L k own)).run Q := by
  unfold sTail
  have mk : ∀ b : List Str, SubN names b → ∃ a, SubN names a ∧ b.map PyData.str = a.map PyData.str := fun b hb => ⟨b, hb, rfl⟩
  have cm : ∀ (xs : List Str) (lo hi : Option Int), SubN names xs → SubN names (cutL xs lo hi) := fun xs lo hi h => ⟨fun x hx => h.1 x (cutL_mem hx), Nat.le_trans (cutL_le ..) h.2⟩
  refine seq_any (env := sE dk s1 s2 names kind core parts L k) (P := SubN names) ?_ fun b1 h1 => ?_
  · simp
    split
    · rw [str_map, show (some 1 : Option Int) = some ((1 : Nat) : Int) from rfl, cut_to]
      have c1 : (own.take 1).length ≤ 1 := by rw [List.length_take]; omega
      rw [enum_str]
      refine ⟨by rw [List.length_map]; omega, by simp; omega, ?_⟩
      refine lc_pick (u := fun p : Str × Nat => .str p.1) _ (fun p hp => ?_) fun ys y1 y2 => ?_
      · simp
        omega
      · rw [List.length_zipIdx] at y2
        have e9 : ys.map (fun p : Str × Nat => PyData.str p.1) = (ys.map (·.1)).map .str := by rw [List.map_map]; rfl
        rw [e9, ← List.map_append, ← List.map_append]
        refine ⟨by simp; omega, mk _ ⟨fun x hx => ?_, by simp; omega⟩⟩
        rcases List.mem_append.mp hx with h | h
        · exact hc.1 x h
        · rcases List.mem_append.mp h with h | h
          · exact ho.1 x (List.mem_of_mem_take h)
          · obtain ⟨p, p1, rfl⟩ := List.mem_map.mp h
            exact List.mem_of_getElem? (List.mem_zipIdx_iff_getElem?.mp (y1 p p1))
    · exact mk own ho
  refine seq_any (env := sE dk s1 s2 names kind core parts L k) (P := SubN names) ?_ fun b2 h2 => ?_
  · simp
    split
    · refine ⟨⟨by omega, by omega⟩, fun x x0 x1 => ?_⟩
      obtain ⟨i, a, _, ea, ea2⟩ := at_some (t := PyData.str) (xs := names) x0 x1
      rw [ea2]
      refine ⟨⟨by omega, by omega⟩, fun y y0 y1 => ?_⟩
      obtain ⟨j, b, _, eb, eb2⟩ := at_some (t := PyData.str) (xs := names) y0 y1
      rw [eb2]
      refine mk [a, b] ⟨fun z hz => ?_, by simp⟩
      rcases List.mem_cons.mp hz with rfl | hz
      · exact List.mem_of_getElem? ea
      · rw [List.mem_singleton.mp hz]; exact List.mem_of_getElem? eb
    · exact mk b1 h1
  refine seq_any (env := sE dk s1 s2 names kind core parts L k) (P := SubN names) ?_ fun b3 h3 => ?_
  · simp
    split
    · refine ⟨⟨by omega, by omega⟩, fun x x0 x1 => ?_⟩
      rw [str_map]
      exact mk _ (cm names _ _ ⟨fun x h => h, by omega⟩)
    · exact mk b2 h2
  simp
  refine (run_sortsetS (lim := names) (by omega) h3.1 ?_).1
  rw [str_map, show (some 6 : Option Int) = some ((6 : Nat) : Int) from rfl, cut_to, srtS]
  refine ⟨⟨sortable_s _, by simp; omega⟩, by omega, ?_⟩
  have := q (srt ((sset b3).take 6)) (.imm (.list (b3.map .str))) ⟨srt_lt ((lt_nodup (sset_lt b3)).sublist (List.take_sublist ..)), by rw [srt_len, List.length_take]; omega, fun x hx => h3.1 x (sset_mem.mp (List.mem_of_mem_take (srt_mem.mp hx)))⟩
  rw [sEnv, List.map_append] at this
  exact this
theorem sets_loop {dk : Nat} {s1 s2 : Sl} {names core : List Str} {kind parts : Nat} (hn : 1 ≤ names.length ∧ names.length ≤ 12) (hkd : kind < 5) (hp : 1 ≤ parts) (hc : SubN names core) (hc2 : core.length ≤ 12) {Q : Fl × Z.Env → Prop} : ∀ (rest : List Nat) (L : List (List Str)), (∀ t ∈ rest, t < 100) → (∀ s ∈ L, SetIn names s) → L.length + rest.length ≤ 100 →
    (∀ M : List (List Str), (∀ s ∈ M, SetIn names s) → M.length = L.length + rest.length → Q (.nx, sEnv dk s1 s2 names kind core parts M .any .any .any)) →
    (loopM [8, 9] (nName 8) lb_law_sets_1 (rest.map fun k : Nat => PyData.int k) (sEnv dk s1 s2 names kind core parts L .any .any .any)).run Q
  | [], L, _, hL, _, q => by simpa using q L hL (by simp)
  | k :: rest, L, hk, hL, hl, q => by
    rw [List.length_cons] at hl
    have hk0 := hk k (List.mem_cons_self ..)
    rw [List.map_cons, loop_cons]
    simp [sets_eq, -lb_law_sets_1_r]
    refine ⟨by omega, ?_⟩
    obtain ⟨z5, ez5, hz5⟩ : ∃ z : Int, L2.atI [PyData.int 2, PyData.int 4, PyData.int 9, PyData.int 9, PyData.int 9] (kind : Int) = some (.int z) ∧ 1 ≤ z ∧ z ≤ 9 := by
      match kind, hkd with
      | 0, _ => exact ⟨2, rfl, by decide⟩
      | 1, _ => exact ⟨4, rfl, by decide⟩
      | 2, _ => exact ⟨9, rfl, by decide⟩
      | 3, _ => exact ⟨9, rfl, by decide⟩
      | 4, _ => exact ⟨9, rfl, by decide⟩
    refine lc_pick (u := PyData.str) names (fun x hx => ?_) fun ys y1 y2 => ?_
    · simp
      rw [ez5]
      simp
      omega
    · refine r_sTail hn hp hc hc2 hk0 (by omega) (own := ys) ⟨y1, by omega⟩ fun s s9 hs => ?_
      have := sets_loop (dk := dk) (s1 := s1) (s2 := s2) hn hkd hp hc hc2 rest (L ++ [s]) (fun t ht => hk t (List.mem_cons_of_mem _ ht)) (fun t ht => (List.mem_append.mp ht).elim (hL t) fun h => (List.mem_singleton.mp h) ▸ hs) (by simp; omega) (Q := Q) (fun M m1 m2 => q M m1 (by simp at m2 ⊢; omega))
      rw [sEnv, List.map_append] at this
      simpa using this
theorem r_law_sets {Q : Rv → Prop} {dk most wide : Nat} (hm : most ≤ 50) (hw : 1 ≤ wide ∧ wide ≤ 12) (q : ∀ (names : List Str) (L : List (List Str)), names.length ≤ wide → L.length ≤ most → (∀ s ∈ L, SetIn names s) → L.Pairwise ltT → Q (.im (tupSS L))) : (m_law_sets [.opq dk, .imm (.int most), .imm (.int wide)]).run Q := by
  unfold m_law_sets
  simp [ms_law_sets, List.replicate_succ]
  refine ⟨⟨by omega, by omega⟩, fun x x0 x1 => ?_⟩
  obtain ⟨x, rfl⟩ := Int.eq_ofNat_of_zero_le x0
  rw [show ((1 : Int) + (x : Int)) = ((1 + x : Nat) : Int) by omega]
  refine r_law_names (by omega) fun names hlen => ?_
  simp
  intro y y0 y1
  obtain ⟨kind, rfl⟩ := Int.eq_ofNat_of_zero_le y0
  refine ⟨by omega, ?_⟩
  refine lc_pick (u := PyData.str) names (fun x hx => ?_) fun core c1 c2 => ?_
  · simp
  · intro p p0 p1
    obtain ⟨p, rfl⟩ := Int.eq_ofNat_of_zero_le p0
    refine ⟨⟨by omega, by omega⟩, fun a a0 a1 b b0 b1 => ?_⟩
    obtain ⟨a, rfl⟩ := Int.eq_ofNat_of_zero_le a0
    have hcnt : ∃ c : Nat, L2.atI [PyData.int (a : Int), PyData.int most] (if b = 0 then 1 else 0) = some (.int c) ∧ c ≤ most := by
      split
      · exact ⟨most, rfl, by omega⟩
      · exact ⟨a, rfl, by omega⟩
    obtain ⟨c, e2, hc⟩ := hcnt
    rw [e2]
    simp
    refine ⟨by omega, by rw [rgD_len]; unfold turns; omega, ?_⟩
    rw [rg_nat, show ((2 : Int) + (p : Int)) = ((2 + p : Nat) : Int) by omega]
    have hR : ∀ t ∈ List.range c, t < 100 := fun t ht => by have := List.mem_range.mp ht; omega
    have hR2 : (List.range c).length = c := List.length_range
    generalize List.range c = R at *
    refine sets_loop (dk := dk) (s1 := .imm (.int most)) (s2 := .imm (.int wide)) (kind := kind) (parts := 2 + p) (core := core) (names := names) (by omega) (by omega) (by omega) ⟨c1, by omega⟩ (by omega) R [] hR (fun s h => by cases h) (by simp; omega) fun M m1 m2 => ?_
    simp at m2
    simp
    refine (run_sortsetT (lim := M) (by omega) (fun x h => h) ?_).1
    exact q names (ssetT M) (by omega) (Nat.le_trans (ssetT_len M) (by omega)) (fun s hs => m1 s (ssetT_mem.mp hs)) (ssetT_lt M)
end Law
namespace Law
open PySem Z
/-! ### flowers grown from each two, with the petals taken: the same list as levF -/
abbrev Row2 := List Nat × List Str
def leftL (L : List (List Str)) (core : List Str) (m : Nat) : List Str := (sAt L m).filter fun x => !decide (x ∈ core)
def okM (L : List (List Str)) (core taken : List Str) (m : Nat) : Bool := decide ((leftL L core m).length + core.length = (sAt L m).length) && (leftL L core m).all fun x => !decide (x ∈ taken)
structure RInv (L : List (List Str)) (core : List Str) (r : Row2) : Prop where
  ne : r.1 ≠ []
  in_ : ∀ a ∈ r.1, a < L.length ∧ ∀ x ∈ core, x ∈ sAt L a
  tk : ∀ x, x ∈ r.2 ↔ (∃ a ∈ r.1, x ∈ sAt L a) ∧ x ∉ core
theorem sAt_memW {L : List (List Str)} {k : Nat} (h : k < L.length) : sAt L k ∈ L := by
  unfold sAt
  rw [List.getD_eq_getElem?_getD, List.getElem?_eq_getElem h]
  exact List.getElem_mem h
theorem filt_two {s core : List Str} : (s.filter fun x => !decide (x ∈ core)).length + (s.filter fun x => decide (x ∈ core)).length = s.length := by
  induction s with
  | nil => rfl
  | cons x r ih =>
    by_cases c : x ∈ core
    · simp [c]; omega
    · simp [c]; omega
theorem left_len {s core : List Str} (hs : s.Nodup) (hc : core.Nodup) : (s.filter fun x => !decide (x ∈ core)).length + core.length = s.length ↔ ∀ x ∈ core, x ∈ s := by
  have h1 := filt_two (s := s) (core := core)
  have h2 : (s.filter fun x => decide (x ∈ core)).length ≤ core.length := len_of_sub (hs.filter _) fun x hx => by simpa using (List.mem_filter.mp hx).2
  constructor
  · intro h x hx
    have h3 : core.length ≤ (s.filter fun x => decide (x ∈ core)).length := by omega
    by_cases hxs : x ∈ s
    · exact hxs
    · have h4 : (s.filter fun y => decide (y ∈ core)).length + 1 ≤ core.length := by
        have : (x :: s.filter fun y => decide (y ∈ core)).length ≤ core.length := len_of_sub (List.nodup_cons.mpr ⟨fun z => hxs (List.mem_filter.mp z).1, hs.filter _⟩) fun y hy => by
          rcases List.mem_cons.mp hy with rfl | hy
          · exact hx
          · simpa using (List.mem_filter.mp hy).2
        simpa using this
      omega
  · intro h
    have h3 : core.length ≤ (s.filter fun x => decide (x ∈ core)).length := len_of_sub hc fun x hx => List.mem_filter.mpr ⟨h x hx, by simpa using hx⟩
    omega
theorem okM_fit {L : List (List Str)} {core : List Str} {r : Row2} (hS : ∀ s ∈ L, s.Pairwise lO) (hc : core.Pairwise lO) (h : RInv L core r) {m : Nat} (hm : m < L.length) : okM L core r.2 m = fitB L (r.1, core) m := by
  unfold okM fitB
  have hsm := hS _ (sAt_memW hm)
  rw [Bool.eq_iff_iff, Bool.and_eq_true, decide_eq_true_eq, List.all_eq_true, List.all_eq_true]
  unfold leftL
  rw [left_len (lt_nodup hsm) (lt_nodup hc)]
  constructor
  · rintro ⟨h1, h2⟩ a ha
    have hsa := hS _ (sAt_memW (h.in_ a ha).1)
    rw [decide_eq_true_eq]
    refine lt_unique (meetL_pw hsa) hc fun x => ?_
    rw [meetL_mem]
    constructor
    · rintro ⟨x1, x2⟩
      by_cases hx : x ∈ core
      · exact hx
      · have := h2 x (List.mem_filter.mpr ⟨x2, by simpa using hx⟩)
        simp at this
        exact (this ((h.tk x).mpr ⟨⟨a, ha, x1⟩, hx⟩)).elim
    · intro hx; exact ⟨(h.in_ a ha).2 x hx, h1 x hx⟩
  · intro h1
    have hcm : ∀ a ∈ r.1, meetL (sAt L a) (sAt L m) = core := fun a ha => by simpa using h1 a ha
    refine ⟨fun x hx => ?_, fun x hx => ?_⟩
    · obtain ⟨a, ha⟩ := List.exists_mem_of_ne_nil _ h.ne
      have := hcm a ha
      rw [← this] at hx
      exact (meetL_mem.mp hx).2
    · obtain ⟨x1, x2⟩ := List.mem_filter.mp hx
      have x2 : x ∉ core := by simpa using x2
      simp
      intro hxt
      obtain ⟨⟨a, ha, hxa⟩, _⟩ := (h.tk x).mp hxt
      exact x2 ((hcm a ha) ▸ meetL_mem.mpr ⟨hxa, x1⟩)
def kid2 (L : List (List Str)) (core : List Str) (r : Row2) (m : Nat) : Row2 := (r.1 ++ [m], r.2 ++ leftL L core m)
def kids2 (L : List (List Str)) (core : List Str) (r : Row2) : List Row2 := ((List.range' (lastN r.1 + 1) (L.length - (lastN r.1 + 1))).filter (okM L core r.2)).map (kid2 L core r)
theorem RInv.kid {L : List (List Str)} {core : List Str} {r : Row2} (hS : ∀ s ∈ L, s.Pairwise lO) (hc : core.Pairwise lO) (h : RInv L core r) {m : Nat} (hm : m < L.length) (ok : okM L core r.2 m = true) : RInv L core (kid2 L core r m) := by
  have h1 : ∀ x ∈ core, x ∈ sAt L m := by
    unfold okM at ok
    rw [Bool.and_eq_true, decide_eq_true_eq] at ok
    exact (left_len (lt_nodup (hS _ (sAt_memW hm))) (lt_nodup hc)).mp ok.1
  refine ⟨by simp [kid2], fun a ha => ?_, fun x => ?_⟩
  · rcases List.mem_append.mp ha with ha | ha
    · exact h.in_ a ha
    · rw [List.mem_singleton.mp ha]; exact ⟨hm, h1⟩
  · show x ∈ r.2 ++ leftL L core m ↔ (∃ a ∈ r.1 ++ [m], x ∈ sAt L a) ∧ x ∉ core
    rw [List.mem_append, h.tk]
    unfold leftL
    rw [List.mem_filter]
    constructor
    · rintro (⟨⟨a, ha, hx⟩, hn⟩ | ⟨hx, hn⟩)
      · exact ⟨⟨a, List.mem_append_left _ ha, hx⟩, hn⟩
      · exact ⟨⟨m, by simp, hx⟩, by simpa using hn⟩
    · rintro ⟨⟨a, ha, hx⟩, hn⟩
      rcases List.mem_append.mp ha with ha | ha
      · exact .inl ⟨⟨a, ha, hx⟩, hn⟩
      · rw [List.mem_singleton.mp ha] at hx
        exact .inr ⟨hx, by simpa using hn⟩
theorem kids2_row {L : List (List Str)} {core : List Str} {r : Row2} (hS : ∀ s ∈ L, s.Pairwise lO) (hc : core.Pairwise lO) (h : RInv L core r) : (kids2 L core r).map (fun q => (q.1, core)) = kidsR L (r.1, core) ∧ ∀ q ∈ kids2 L core r, RInv L core q := by
  have e : (List.range' (lastN r.1 + 1) (L.length - (lastN r.1 + 1))).filter (okM L core r.2) = (List.range' (lastN r.1 + 1) (L.length - (lastN r.1 + 1))).filter (fitB L (r.1, core)) := List.filter_congr fun m hm => by
    have := List.mem_range'_1.mp hm
    exact okM_fit hS hc h (by omega)
  refine ⟨?_, fun q hq => ?_⟩
  · unfold kids2 kidsR
    rw [e, List.map_map]; rfl
  · obtain ⟨m, hm, rfl⟩ := List.mem_map.mp hq
    obtain ⟨m1, m2⟩ := List.mem_filter.mp hm
    have := List.mem_range'_1.mp m1
    exact h.kid hS hc (by omega) m2
def grown2 (L : List (List Str)) (core : List Str) (rows : List Row2) : List Row2 := rows.flatMap (kids2 L core)
theorem grown2_row {L : List (List Str)} {core : List Str} (hS : ∀ s ∈ L, s.Pairwise lO) (hc : core.Pairwise lO) : ∀ rows : List Row2, (∀ r ∈ rows, RInv L core r) → (grown2 L core rows).map (fun q => (q.1, core)) = grownL L (rows.map fun q => (q.1, core)) ∧ ∀ q ∈ grown2 L core rows, RInv L core q
  | [], _ => ⟨rfl, fun _ h => by cases h⟩
  | r :: rows, h => by
    have h1 := kids2_row hS hc (h r (List.mem_cons_self ..))
    have h2 := grown2_row hS hc rows fun q hq => h q (List.mem_cons_of_mem _ hq)
    unfold grown2 grownL at *
    rw [List.flatMap_cons, List.map_cons, List.flatMap_cons, List.map_append, h1.1, h2.1]
    exact ⟨rfl, fun q hq => (List.mem_append.mp hq).elim (h1.2 q) (h2.2 q)⟩
/-- k turns of growing -/
def gR (L : List (List Str)) (rows : List Row) : Nat → List Row
  | 0 => rows
  | k + 1 => grownL L (gR L rows k)
theorem gR_app (L : List (List Str)) (a b : List Row) : ∀ k, gR L (a ++ b) k = gR L a k ++ gR L b k
  | 0 => rfl
  | k + 1 => by
    show grownL L (gR L (a ++ b) k) = grownL L (gR L a k) ++ grownL L (gR L b k)
    rw [gR_app L a b k]
    unfold grownL
    rw [List.flatMap_append]
theorem gR_nil (L : List (List Str)) : ∀ k, gR L [] k = []
  | 0 => rfl
  | k + 1 => by show grownL L (gR L [] k) = []; rw [gR_nil L k]; rfl
theorem gR_flat {α : Type} (L : List (List Str)) (f : α → List Row) (k : Nat) : ∀ xs : List α, gR L (xs.flatMap f) k = xs.flatMap fun x => gR L (f x) k
  | [] => gR_nil L k
  | x :: xs => by rw [List.flatMap_cons, gR_app, gR_flat L f k xs, List.flatMap_cons]
theorem levF_gR (L : List (List Str)) : ∀ k, levF L k = gR L (begunL L) k
  | 0 => rfl
  | k + 1 => by show grownL L (levF L k) = grownL L (gR L (begunL L) k); rw [levF_gR L k]
theorem gR_wts (L : List (List Str)) (rows : List Row) : ∀ k, wts L.length (gR L rows k) ≤ wts L.length rows
  | 0 => Nat.le_refl _
  | k + 1 => Nat.le_trans (grown_wts L _) (gR_wts L rows k)
/-- the flowers over one two -/
def overTwo (L : List (List Str)) (k a b : Nat) : List Row := gR L [([a, b], meetL (sAt L a) (sAt L b))] k
theorem levF_over (L : List (List Str)) (k : Nat) : levF L k = (List.range L.length).flatMap fun a => (List.range' (a + 1) (L.length - (a + 1))).flatMap fun b => overTwo L k a b := by
  rw [levF_gR]
  unfold begunL
  rw [gR_flat]
  have hf : ∀ a, gR L (twosL L a) k = (List.range' (a + 1) (L.length - (a + 1))).flatMap fun b => overTwo L k a b := fun a => by
    have : twosL L a = (List.range' (a + 1) (L.length - (a + 1))).flatMap fun b => [([a, b], meetL (sAt L a) (sAt L b))] := by unfold twosL; rw [List.map_eq_flatMap]
    rw [this, gR_flat]; rfl
  congr 1
  funext a
  exact hf a
theorem over_len (L : List (List Str)) (k a b : Nat) : (overTwo L k a b).length ≤ 2 ^ L.length := by
  refine Nat.le_trans (wts_len L.length _) (Nat.le_trans (gR_wts L _ k) ?_)
  unfold wts wt
  simp
  exact Nat.pow_le_pow_right (by decide) (by omega)
end Law
namespace Z
open PySem PySem.W
/-! ### choices of so many, counted -/
def sub {α : Type} : Nat → List α → List (List α)
  | 0, _ => [[]]
  | _ + 1, [] => []
  | m + 1, x :: r => (sub m r).map (x :: ·) ++ sub (m + 1) r
section
variable {α β : Type}
theorem sub_zero (L : List α) : sub 0 L = [[]] := by cases L <;> rfl
theorem sub_map (f : α → β) : ∀ (m : Nat) (L : List α), sub m (L.map f) = (sub m L).map (List.map f)
  | 0, L => by rw [sub_zero, sub_zero]; rfl
  | m + 1, [] => rfl
  | m + 1, x :: r => by
    rw [List.map_cons]
    show (sub m (r.map f)).map (f x :: ·) ++ sub (m + 1) (r.map f) = ((sub m r).map (x :: ·) ++ sub (m + 1) r).map (List.map f)
    rw [sub_map f m r, sub_map f (m + 1) r, List.map_append, List.map_map, List.map_map]
    congr 1
theorem sub_mem : ∀ (m : Nat) (L T : List α), T ∈ sub m L ↔ T.Sublist L ∧ T.length = m
  | 0, L, T => by
    rw [sub_zero, List.mem_singleton]
    constructor
    · rintro rfl; exact ⟨List.nil_sublist _, rfl⟩
    · rintro ⟨_, h⟩; exact List.eq_nil_of_length_eq_zero h
  | m + 1, [], T => by
    constructor
    · intro h; cases h
    · rintro ⟨h1, h2⟩
      rw [List.sublist_nil.mp h1] at h2; cases h2
  | m + 1, x :: r, T => by
    show T ∈ (sub m r).map (x :: ·) ++ sub (m + 1) r ↔ _
    rw [List.mem_append, List.mem_map, sub_mem (m + 1) r T]
    constructor
    · rintro (⟨U, hU, rfl⟩ | ⟨h1, h2⟩)
      · obtain ⟨h1, h2⟩ := (sub_mem m r U).mp hU
        exact ⟨h1.cons_cons x, by simp [h2]⟩
      · exact ⟨h1.cons x, h2⟩
    · rintro ⟨h1, h2⟩
      cases h1 with
      | cons _ h => exact .inr ⟨h, h2⟩
      | cons_cons _ h =>
        rename_i U
        exact .inl ⟨U, (sub_mem m r U).mpr ⟨h, by simpa using h2⟩, rfl⟩
def cntS (P : List α → Bool) (m : Nat) (L : List α) : Nat := ((sub m L).filter P).length
theorem cntS_zero (P : List α → Bool) (L : List α) : cntS P 0 L = if P [] = true then 1 else 0 := by
  unfold cntS
  rw [sub_zero]
  split
  · rename_i h; rw [List.filter_cons_of_pos h]; rfl
  · rename_i h; rw [List.filter_cons_of_neg h]; rfl
theorem cntS_cons (P : List α → Bool) (m : Nat) (x : α) (r : List α) : cntS P (m + 1) (x :: r) = cntS (fun T => P (x :: T)) m r + cntS P (m + 1) r := by
  unfold cntS
  show (((sub m r).map (x :: ·) ++ sub (m + 1) r).filter P).length = _
  rw [List.filter_append, List.length_append, List.filter_map, List.length_map]
  rfl
theorem cntS_congr {P P' : List α → Bool} {m : Nat} {L : List α} (h : ∀ T, T.Sublist L → T.length = m → P T = P' T) : cntS P m L = cntS P' m L := by
  unfold cntS
  rw [List.filter_congr fun T hT => ?_]
  obtain ⟨h1, h2⟩ := (sub_mem m L T).mp hT
  exact h T h1 h2
theorem cntS_map (P : List β → Bool) (f : α → β) (m : Nat) (L : List α) : cntS P m (L.map f) = cntS (fun T => P (T.map f)) m L := by
  unfold cntS
  rw [sub_map, List.filter_map, List.length_map]
  rfl
theorem cntS_none {P : List α → Bool} {m : Nat} {L : List α} (h : ∀ T, T.Sublist L → T.length = m → P T = false) : cntS P m L = 0 := by
  rw [cntS_congr h]
  unfold cntS
  rw [List.filter_eq_nil_iff.mpr (by simp)]; rfl
def PermI (P : List α → Bool) : Prop := ∀ T T', T.Perm T' → P T = P T'
theorem PermI.cons {P : List α → Bool} (h : PermI P) (x : α) : PermI fun T => P (x :: T) := fun T T' hp => h _ _ (hp.cons x)
theorem cntS_perm {L L' : List α} (hp : L.Perm L') : ∀ {P : List α → Bool}, PermI P → ∀ m, cntS P m L = cntS P m L' := by
  induction hp with
  | nil => intro P _ m; rfl
  | cons x _ ih =>
    intro P h m
    cases m with
    | zero => rw [cntS_zero, cntS_zero]
    | succ m => rw [cntS_cons, cntS_cons, ih (h.cons x), ih h]
  | swap x y r =>
    intro P h m
    match m with
    | 0 => rw [cntS_zero, cntS_zero]
    | 1 =>
      rw [cntS_cons, cntS_cons, cntS_cons, cntS_cons, cntS_zero, cntS_zero, cntS_zero, cntS_zero]
      omega
    | m + 2 =>
      rw [cntS_cons, cntS_cons, cntS_cons, cntS_cons, cntS_cons, cntS_cons]
      have : cntS (fun T => P (y :: x :: T)) m r = cntS (fun T => P (x :: y :: T)) m r := cntS_congr fun T _ _ => h _ _ (List.Perm.swap x y T)
      rw [this]
      omega
  | trans _ _ ih1 ih2 =>
    intro P h m
    rw [ih1 h, ih2 h]
/-- one set of a collection: those with it, those without it -/
theorem cntS_out {P : List α → Bool} (h : PermI P) (m : Nat) (A B : List α) (x : α) : cntS P (m + 1) (A ++ x :: B) = cntS (fun T => P (x :: T)) m (A ++ B) + cntS P (m + 1) (A ++ B) := by
  rw [cntS_perm List.perm_middle h, cntS_cons]
end
/-! rows of places are choices -/
theorem lex_cons {x : Nat} {a b : List Nat} : lex (x :: a) (x :: b) ↔ lex a b := by
  unfold lex zl
  rw [List.map_cons, List.map_cons, listLt, if_pos rfl]
theorem sub_lex : ∀ (m : Nat) (L : List Nat), L.Pairwise (fun a b => a < b) → (sub m L).Pairwise lex
  | 0, L, _ => by rw [sub_zero]; simp
  | m + 1, [], _ => List.Pairwise.nil
  | m + 1, x :: r, h => by
    rw [List.pairwise_cons] at h
    show ((sub m r).map (x :: ·) ++ sub (m + 1) r).Pairwise lex
    rw [List.pairwise_append, List.pairwise_map]
    refine ⟨(sub_lex m r h.2).imp fun h => lex_cons.mpr h, sub_lex (m + 1) r h.2, fun a ha b hb => ?_⟩
    obtain ⟨U, hU, rfl⟩ := List.mem_map.mp ha
    obtain ⟨h1, h2⟩ := (sub_mem _ _ _).mp hb
    cases b with
    | nil => cases h2
    | cons y V =>
      have hy := h.1 y (h1.subset (List.mem_cons_self ..))
      exact lex_app (p := [x]) (q := [y]) rfl (lex_one hy) U V
theorem lex_unique {A B : List (List Nat)} (ha : A.Pairwise lex) (hb : B.Pairwise lex) (h : ∀ p, p ∈ A ↔ p ∈ B) : A = B := by
  have key : A.map zl = B.map zl := by
    refine lt_unique (α := List Int) ?_ ?_ fun z => ?_
    · rw [List.pairwise_map]; exact ha
    · rw [List.pairwise_map]; exact hb
    · rw [List.mem_map, List.mem_map]
      constructor
      · rintro ⟨p, hp, rfl⟩; exact ⟨p, (h p).mp hp, rfl⟩
      · rintro ⟨p, hp, rfl⟩; exact ⟨p, (h p).mpr hp, rfl⟩
  have inj : ∀ {A B : List (List Nat)}, A.map zl = B.map zl → A = B := by
    intro A
    induction A with
    | nil => intro B h; cases B with
      | nil => rfl
      | cons _ _ => cases h
    | cons a A ih => intro B h; cases B with
      | nil => cases h
      | cons b B =>
        rw [List.map_cons, List.map_cons] at h
        injection h with h1 h2
        rw [ih h2, zl_inj h1]
  exact inj key
theorem sub_range {n m : Nat} {p : List Nat} : p.Sublist (List.range n) ↔ p.Pairwise (fun a b => a < b) ∧ ∀ a ∈ p, a < n := by
  constructor
  · intro h
    exact ⟨List.pairwise_lt_range.sublist h, fun a ha => List.mem_range.mp (h.subset ha)⟩
  · rintro ⟨h1, h2⟩
    have e : (List.range n).filter (fun k => decide (k ∈ p)) = p := by
      have := lt_unique (α := Int) (xs := zl ((List.range n).filter (fun k => decide (k ∈ p)))) (ys := zl p) ?_ ?_ fun z => ?_
      · exact zl_inj this
      · rw [List.pairwise_map]
        exact (List.pairwise_lt_range.filter _).imp fun {a b} h => by show decide ((a : Int) < b) = true; simp; omega
      · rw [List.pairwise_map]
        exact h1.imp fun {a b} h => by show decide ((a : Int) < b) = true; simp; omega
      · rw [List.mem_map, List.mem_map]
        constructor
        · rintro ⟨k, hk, rfl⟩; exact ⟨k, by simpa using (List.mem_filter.mp hk).2, rfl⟩
        · rintro ⟨k, hk, rfl⟩; exact ⟨k, List.mem_filter.mpr ⟨List.mem_range.mpr (h2 k hk), by simpa using hk⟩, rfl⟩
    rw [← e]
    exact List.filter_sublist
theorem levP_sub (n m : Nat) : levP n m = sub m (List.range n) := by
  refine lex_unique (levP_lex n m) (sub_lex m _ List.pairwise_lt_range) fun p => ?_
  rw [levP_mem, sub_mem, sub_range (m := m)]
  exact ⟨fun h => ⟨h.2, h.1⟩, fun h => ⟨h.2, h.1⟩⟩
theorem range_sAt (L : List (List Str)) : (List.range L.length).map (sAt L) = L := by
  apply List.ext_getElem?
  intro i
  rw [List.getElem?_map]
  by_cases h : i < L.length
  · rw [List.getElem?_range h]
    unfold sAt
    simp [List.getElem?_eq_getElem h]
  · rw [List.getElem?_eq_none (by simp; omega), List.getElem?_eq_none (by omega)]; rfl
theorem levP_cnt (L : List (List Str)) (m : Nat) (P : List (List Str) → Bool) : ((levP L.length m).filter fun p => P (setsAt L p)).length = cntS P m L := by
  conv => rhs; rw [← range_sAt L]
  rw [cntS_map, levP_sub]
  rfl
/-! flowers as sets of sets -/
open Classical in
noncomputable def flS (T : List (List Str)) : Bool := decide (∃ c : List Str, T.Pairwise fun a b => ∀ x, x ∈ c ↔ x ∈ a ∧ x ∈ b)
open Classical in
noncomputable def flC (c : List Str) (T : List (List Str)) : Bool := decide (T.Pairwise fun a b => ∀ x, x ∈ c ↔ x ∈ a ∧ x ∈ b)
theorem flS_iff {T : List (List Str)} : flS T = true ↔ ∃ c : List Str, T.Pairwise fun a b => ∀ x, x ∈ c ↔ x ∈ a ∧ x ∈ b := by unfold flS; simp
theorem flC_iff {c : List Str} {T : List (List Str)} : flC c T = true ↔ T.Pairwise fun a b => ∀ x, x ∈ c ↔ x ∈ a ∧ x ∈ b := by unfold flC; simp
theorem pw_perm {c : List Str} {T T' : List (List Str)} (h : T.Perm T') : (T.Pairwise fun a b => ∀ x, x ∈ c ↔ x ∈ a ∧ x ∈ b) ↔ T'.Pairwise fun a b => ∀ x, x ∈ c ↔ x ∈ a ∧ x ∈ b :=
  h.pairwise_iff fun {a b} h x => (h x).trans And.comm
theorem flS_perm : PermI flS := fun T T' h => by
  rw [Bool.eq_iff_iff, flS_iff, flS_iff]
  exact ⟨fun ⟨c, hc⟩ => ⟨c, (pw_perm h).mp hc⟩, fun ⟨c, hc⟩ => ⟨c, (pw_perm h).mpr hc⟩⟩
theorem flC_perm (c : List Str) : PermI (flC c) := fun T T' h => by
  rw [Bool.eq_iff_iff, flC_iff, flC_iff]
  exact pw_perm h
theorem FlC_iff {L : List (List Str)} (hS : ∀ s ∈ L, s.Pairwise lO) {c : List Str} (hc : c.Pairwise lO) {p : List Nat} : FlC L c p ↔ (p.Pairwise fun a b => a < b) ∧ (∀ k ∈ p, k < L.length) ∧ flC c (setsAt L p) = true := by
  rw [flC_iff]
  unfold setsAt FlC
  rw [List.pairwise_map]
  have two : ∀ a b, meetL (sAt L a) (sAt L b) = c ↔ ∀ x, x ∈ c ↔ x ∈ sAt L a ∧ x ∈ sAt L b := fun a b => by
    constructor
    · rintro rfl x; exact meetL_mem
    · intro h
      refine lt_unique (meetL_pw (sAt_pw hS a)) hc fun x => ?_
      rw [meetL_mem]; exact (h x).symm
  constructor
  · rintro ⟨h1, h2⟩
    exact ⟨h1.imp fun h => h.1, h2, h1.imp fun {a b} h => (two a b).mp h.2⟩
  · rintro ⟨h1, h2, h3⟩
    exact ⟨(h1.and h3).imp fun {a b} h => ⟨h.1, (two a b).mpr h.2⟩, h2⟩
theorem FlC.sorted {L : List (List Str)} (hS : ∀ s ∈ L, s.Pairwise lO) {c : List Str} {p : List Nat} (h : FlC L c p) (hl : 2 ≤ p.length) : c.Pairwise lO := by
  match p, hl with
  | a :: b :: r, _ =>
    rw [← ((List.pairwise_cons.mp h.1).1 b (by simp)).2]
    exact meetL_pw (sAt_pw hS a)
theorem flS_core {L : List (List Str)} (hS : ∀ s ∈ L, s.Pairwise lO) {p : List Nat} (hp : p.Pairwise fun a b => a < b) (hn : ∀ a ∈ p, a < L.length) (hl : 2 ≤ p.length) : flS (setsAt L p) = true ↔ ∃ c, FlC L c p := by
  rw [flS_iff]
  constructor
  · rintro ⟨c, hc⟩
    have hc0 := hc
    unfold setsAt at hc
    rw [List.pairwise_map] at hc
    match p, hl with
    | a :: b :: r, _ =>
      have e := (List.pairwise_cons.mp hc).1 b (by simp)
      refine ⟨meetL (sAt L a) (sAt L b), (FlC_iff hS (meetL_pw (sAt_pw hS a))).mpr ⟨hp, hn, flC_iff.mpr (hc0.imp fun {u v} h x => ?_)⟩⟩
      rw [meetL_mem, ← e x]
      exact h x
  · rintro ⟨c, hc⟩
    exact ⟨c, flC_iff.mp ((FlC_iff hS (hc.sorted hS hl)).mp hc).2.2⟩
theorem levF_rows {L : List (List Str)} (hS : ∀ s ∈ L, s.Pairwise lO) (k : Nat) : (levF L k).map (·.1) = (levP L.length (k + 2)).filter fun p => flS (setsAt L p) := by
  refine lex_unique ?_ ((levP_lex _ _).filter _) fun p => ?_
  · rw [List.pairwise_map]; exact (levF_lex L k).1
  · rw [List.mem_map, List.mem_filter, levP_mem]
    constructor
    · rintro ⟨r, hr, rfl⟩
      obtain ⟨h1, h2⟩ := (levF_mem k r).mp hr
      exact ⟨⟨h1, h2.mono, h2.2⟩, (flS_core hS h2.mono h2.2 (by omega)).mpr ⟨_, h2⟩⟩
    · rintro ⟨⟨h1, h2, h3⟩, h4⟩
      obtain ⟨c, hc⟩ := (flS_core hS h2 h3 (by omega)).mp h4
      exact ⟨(p, c), (levF_mem k _).mpr ⟨h1, hc⟩, rfl⟩
theorem levF_rowsC {L : List (List Str)} (hS : ∀ s ∈ L, s.Pairwise lO) {c : List Str} (hc : c.Pairwise lO) (k : Nat) : ((levF L k).filter fun r => decide (r.2 = c)).map (·.1) = (levP L.length (k + 2)).filter fun p => flC c (setsAt L p) := by
  refine lex_unique ?_ ((levP_lex _ _).filter _) fun p => ?_
  · rw [List.pairwise_map]; exact (levF_lex L k).1.filter _
  · rw [List.mem_map, List.mem_filter, levP_mem]
    constructor
    · rintro ⟨r, hr, rfl⟩
      obtain ⟨hr, he⟩ := List.mem_filter.mp hr
      obtain ⟨h1, h2⟩ := (levF_mem k r).mp hr
      have he : r.2 = c := by simpa using he
      rw [he] at h2
      exact ⟨⟨h1, h2.mono, h2.2⟩, ((FlC_iff hS hc).mp h2).2.2⟩
    · rintro ⟨⟨h1, h2, h3⟩, h4⟩
      exact ⟨(p, c), List.mem_filter.mpr ⟨(levF_mem k _).mpr ⟨h1, (FlC_iff hS hc).mpr ⟨h2, h3, h4⟩⟩, by simp⟩, rfl⟩
theorem levF_cnt {L : List (List Str)} (hS : ∀ s ∈ L, s.Pairwise lO) (k : Nat) : (levF L k).length = cntS flS (k + 2) L := by
  rw [← levP_cnt, ← levF_rows hS, List.length_map]
theorem levF_cntC {L : List (List Str)} (hS : ∀ s ∈ L, s.Pairwise lO) {c : List Str} (hc : c.Pairwise lO) (k : Nat) : ((levF L k).filter fun r => decide (r.2 = c)).length = cntS (flC c) (k + 2) L := by
  rw [← levP_cnt, ← levF_rowsC hS hc, List.length_map]
/-! places of some sets -/
theorem places {R : List Str → List Str → Prop} (hR : ∀ {a b}, R a b → R b a) {T L : List (List Str)} (hT : T.Nodup) (hL : L.Nodup) (hs : ∀ t ∈ T, t ∈ L) (h : T.Pairwise R) : ∃ p : List Nat, p.Pairwise (fun a b => a < b ∧ R (sAt L a) (sAt L b)) ∧ (∀ k ∈ p, k < L.length) ∧ p.length = T.length ∧ (setsAt L p).Perm T := by
  have e : setsAt L ((List.range L.length).filter fun k => decide (sAt L k ∈ T)) = L.filter fun s => decide (s ∈ T) := by
    conv => rhs; rw [← range_sAt L, List.filter_map]
    rfl
  have hp : (setsAt L ((List.range L.length).filter fun k => decide (sAt L k ∈ T))).Perm T := by
    rw [e, List.perm_ext_iff_of_nodup (hL.filter _) hT]
    intro s
    rw [List.mem_filter]
    exact ⟨fun h => by simpa using h.2, fun h => ⟨hs s h, by simpa using h⟩⟩
  refine ⟨(List.range L.length).filter fun k => decide (sAt L k ∈ T), ?_, fun k hk => List.mem_range.mp (List.mem_filter.mp hk).1, ?_, hp⟩
  · have h1 := (hp.pairwise_iff fun {a b} h => hR h).mpr h
    unfold setsAt at h1
    rw [List.pairwise_map] at h1
    exact (List.pairwise_lt_range.filter _).and h1
  · have := hp.length_eq
    unfold setsAt at this
    rwa [List.length_map] at this
theorem setsAt_nodup {L : List (List Str)} (hL : L.Nodup) {p : List Nat} (hp : p.Pairwise fun a b => a < b) (hn : ∀ k ∈ p, k < L.length) : (setsAt L p).Nodup := by
  unfold setsAt
  exact nodup_inj (hp.imp fun h => Nat.ne_of_lt h) fun a ha b hb e => sAt_inj hL (hn a ha) (hn b hb) e
/-- a flower by sets is a row of places -/
theorem fl_places {T L : List (List Str)} (hS : ∀ s ∈ L, s.Pairwise lO) (hT : T.Nodup) (hL : L.Nodup) (hs : ∀ t ∈ T, t ∈ L) {c : List Str} (hc : c.Pairwise lO) (h : flC c T = true) : ∃ p, FlC L c p ∧ p.length = T.length ∧ (setsAt L p).Perm T := by
  obtain ⟨p, h1, h2, h3, h4⟩ := places (R := fun a b => ∀ x, x ∈ c ↔ x ∈ a ∧ x ∈ b) (fun h x => (h x).trans And.comm) hT hL hs (flC_iff.mp h)
  refine ⟨p, (FlC_iff hS hc).mpr ⟨h1.imp fun h => h.1, h2, flC_iff.mpr ?_⟩, h3, h4⟩
  unfold setsAt
  rw [List.pairwise_map]
  exact h1.imp fun h => h.2
end Z
namespace Z
open PySem PySem.W
/-! ### the law's choices: rows that can still be whole -/
def kidsB (hi : Nat) (p : List Nat) : List (List Nat) := (List.range' (begP p) (hi - begP p)).map fun x => p ++ [x]
def levB (n m : Nat) : Nat → List (List Nat)
  | 0 => [[]]
  | k + 1 => (levB n m k).flatMap (kidsB (n + k + 1 - m))
theorem levB_sub {n m : Nat} : ∀ (k : Nat), k ≤ m → ∀ p ∈ levB n m k, p ∈ levP n k
  | 0, _, p, h => h
  | k + 1, hk, p, h => by
    unfold levB at h
    obtain ⟨q, hq, h⟩ := List.mem_flatMap.mp h
    obtain ⟨x, hx, rfl⟩ := List.mem_map.mp h
    have hx := List.mem_range'_1.mp hx
    unfold levP
    refine List.mem_flatMap.mpr ⟨q, levB_sub k (by omega) q hq, List.mem_map.mpr ⟨x, List.mem_range'_1.mpr (by omega), rfl⟩⟩
theorem levB_lex {n m : Nat} : ∀ k, k ≤ m → (levB n m k).Pairwise lex
  | 0, _ => by simp [levB]
  | k + 1, hk => by
    unfold levB
    rw [List.pairwise_flatMap]
    refine ⟨fun p hp => ?_, ?_⟩
    · unfold kidsB
      rw [List.pairwise_map]
      exact (List.pairwise_lt_range' (s := begP p) (n := n + k + 1 - m - begP p) (step := 1)).imp fun h => lex_last h
    · refine List.Pairwise.imp_of_mem (fun {a b} ha hb hab => ?_) (levB_lex k (by omega))
      intro x hx y hy
      obtain ⟨u, _, rfl⟩ := List.mem_map.mp hx
      obtain ⟨v, _, rfl⟩ := List.mem_map.mp hy
      have h1 := (levP_mem k a).mp (levB_sub k (by omega) a ha)
      have h2 := (levP_mem k b).mp (levB_sub k (by omega) b hb)
      exact lex_app (h1.1.trans h2.1.symm) hab _ _
theorem lex_irr (p : List Nat) : ¬ lex p p := fun h => lO_irr (α := List Int) (zl p) h
theorem lex_nodup {A : List (List Nat)} (h : A.Pairwise lex) : A.Nodup := h.imp fun {a b} h e => by subst e; exact lex_irr a h
theorem levB_len {n m k : Nat} (hk : k ≤ m) : (levB n m k).length ≤ 2 ^ n := by
  refine Nat.le_trans ?_ (levP_len n k)
  exact ZT.len_sub _ _ (lex_nodup (levB_lex k hk)) fun p hp => levB_sub k hk p hp
theorem inc_head {n : Nat} : ∀ (a : Nat) (p : List Nat), (a :: p).Pairwise (fun a b => a < b) → (∀ x ∈ a :: p, x < n) → a + p.length < n
  | a, [], _, h => by simpa using h a (by simp)
  | a, b :: r, h, hx => by
    rw [List.pairwise_cons] at h
    have h1 := h.1 b (by simp)
    have := inc_head b r h.2 fun x hx2 => hx x (List.mem_cons_of_mem _ hx2)
    rw [List.length_cons]
    omega
theorem levB_take {n m : Nat} {T : List Nat} (hT : T ∈ levP n m) : ∀ k, k ≤ m → T.take k ∈ levB n m k
  | 0, _ => by simp [levB]
  | k + 1, hk => by
    obtain ⟨h1, h2, h3⟩ := (levP_mem m T).mp hT
    have hkl : k < T.length := by omega
    have e : T.take (k + 1) = T.take k ++ [T[k]] := by rw [List.take_succ, List.getElem?_eq_getElem hkl]; rfl
    rw [e]
    unfold levB
    refine List.mem_flatMap.mpr ⟨T.take k, levB_take hT k (by omega), List.mem_map.mpr ⟨T[k], List.mem_range'_1.mpr ?_, rfl⟩⟩
    have hd : T.drop k = T[k] :: T.drop (k + 1) := by rw [List.drop_eq_getElem_cons hkl]
    have hi := inc_head (n := n) T[k] (T.drop (k + 1)) (by rw [← hd]; exact h2.sublist (List.drop_sublist _ _)) fun x hx => by
      rw [← hd] at hx
      exact h3 x (List.mem_of_mem_drop hx)
    rw [List.length_drop] at hi
    have hb : begP (T.take k) ≤ T[k] := by
      unfold begP
      cases hl : (T.take k).getLast? with
      | none => simp
      | some x =>
        have hx := List.mem_of_getLast? hl
        have h4 : T.take k ++ T.drop k = T := List.take_append_drop k T
        rw [← h4, List.pairwise_append] at h2
        exact h2.2.2 x hx T[k] (hd ▸ List.mem_cons_self ..)
    omega
theorem levB_all (n m : Nat) : levB n m m = levP n m := by
  refine lex_unique (levB_lex m (Nat.le_refl _)) (levP_lex n m) fun p => ⟨levB_sub m (Nat.le_refl _) p, fun h => ?_⟩
  have := levB_take h m (Nat.le_refl _)
  rwa [List.take_of_length_le (by have := ((levP_mem m p).mp h).1; omega)] at this
/-- a core, tried set by set -/
def okP (c : List Str) : List (List Str) → List (List Str) → Bool
  | _, [] => true
  | pre, x :: r => decide (∀ y ∈ pre, meetL x y = c) && okP c (pre ++ [x]) r
theorem okP_iff {c : List Str} : ∀ {rest pre : List (List Str)}, okP c pre rest = true ↔ rest.Pairwise (fun a b => meetL b a = c) ∧ ∀ a ∈ pre, ∀ b ∈ rest, meetL b a = c
  | [], pre => by simp [okP]
  | x :: r, pre => by
    rw [okP, Bool.and_eq_true, decide_eq_true_eq, okP_iff, List.pairwise_cons]
    constructor
    · rintro ⟨h1, h2, h3⟩
      refine ⟨⟨fun b hb => h3 x (by simp) b hb, h2⟩, fun a ha b hb => ?_⟩
      rcases List.mem_cons.mp hb with rfl | hb
      · exact h1 a ha
      · exact h3 a (List.mem_append_left _ ha) b hb
    · rintro ⟨⟨h1, h2⟩, h3⟩
      refine ⟨fun y hy => h3 y hy x (List.mem_cons_self ..), h2, fun a ha b hb => ?_⟩
      rcases List.mem_append.mp ha with h | h
      · exact h3 a h b (List.mem_cons_of_mem _ hb)
      · have : a = x := by simpa using h
        subst this; exact h1 b hb
theorem okP_fl (T : List (List Str)) : okP (coreC T) [] T = flB T := by
  unfold flB
  rw [Bool.eq_iff_iff, decide_eq_true_eq, okP_iff]; simp
end Z
namespace Z
open PySem PySem.W
/-! ### names as the law of numbers draws them -/
abbrev someL : List Str := ["", "", "one", "zz", "b", "tie", "place", "lengthy"]
abbrev menuL : List Str := ["p", "q", "pp", "pq", "qp", "qq", "ppq", "pqp", "qpp", "pqq", "qpq", "qqp", "pqpqpqpq"]
def NmOk (x : Str) : Prop := x ∈ menuL ∨ ∃ A ∈ someL, ∃ n c : Nat, 97 ≤ c ∧ c < 123 ∧ x = insAt A n c
theorem NmOk.ne {x : Str} (h : NmOk x) : x ≠ "zzzzzzzz" := by
  rcases h with h | ⟨A, hA, n, c, _, _, rfl⟩
  · have key : ∀ z ∈ menuL, z ≠ "zzzzzzzz" := by decide +kernel
    exact key x h
  · intro e
    have hl := insAt_len A n c
    rw [e] at hl
    have h8 : ("zzzzzzzz" : Str).length = 8 := by decide +kernel
    rw [h8] at hl
    have key : ∀ z ∈ someL, z.length = 7 → z = "lengthy" := by decide +kernel
    have := key A hA (by omega)
    subst this
    have e2 := congrArg (fun z : Str => z.cps.toList) e
    simp only [insAt_list] at e2
    have hm : 108 ∈ (("lengthy" : Str).cps.toList.take n ++ c :: ("lengthy" : Str).cps.toList.drop n) := by
      have h0 : 108 ∈ ("lengthy" : Str).cps.toList := by decide +kernel
      rw [← List.take_append_drop n ("lengthy" : Str).cps.toList] at h0
      rcases List.mem_append.mp h0 with h | h
      · exact List.mem_append_left _ h
      · exact List.mem_append_right _ (List.mem_cons_of_mem _ h)
    rw [e2] at hm
    have : 108 ∉ ("zzzzzzzz" : Str).cps.toList := by decide +kernel
    exact this hm
end Z
namespace Z
open PySem PySem.W
theorem levF_core {L : List (List Str)} (hS : ∀ s ∈ L, s.Pairwise lO) (c : List Str) (k : Nat) : ((levF L k).filter fun r => decide (r.2 = c)).map (·.1) = (levP L.length (k + 2)).filter fun p => decide (coreO (setsAt L p) = some c) := by
  refine lex_unique ?_ ((levP_lex _ _).filter _) fun p => ?_
  · rw [List.pairwise_map]; exact (levF_lex L k).1.filter _
  · rw [List.mem_map, List.mem_filter, levP_mem]
    constructor
    · rintro ⟨r, hr, rfl⟩
      obtain ⟨hr, he⟩ := List.mem_filter.mp hr
      obtain ⟨h1, h2⟩ := (levF_mem k r).mp hr
      have he : r.2 = c := by simpa using he
      rw [he] at h2
      exact ⟨⟨h1, h2.mono, h2.2⟩, by simpa using (core_fl hS h2.mono h2.2 (by omega)).mpr h2⟩
    · rintro ⟨⟨h1, h2, h3⟩, h4⟩
      exact ⟨(p, c), List.mem_filter.mpr ⟨(levF_mem k _).mpr ⟨h1, (core_fl hS h2 h3 (by omega)).mp (by simpa using h4)⟩, by simp⟩, rfl⟩
theorem levF_some {L : List (List Str)} (hS : ∀ s ∈ L, s.Pairwise lO) (k : Nat) : (levF L k).map (·.1) = (levP L.length (k + 2)).filter fun p => (coreO (setsAt L p)).isSome := by
  rw [levF_rows hS]
  refine List.filter_congr fun p hp => ?_
  obtain ⟨h1, h2, h3⟩ := (levP_mem _ p).mp hp
  rw [Bool.eq_iff_iff, flS_core hS h2 h3 (by omega), Option.isSome_iff_exists]
  exact exists_congr fun c => (core_fl hS h2 h3 (by omega)).symm
end Z
namespace Law
open PySem Z
/-! ### how many flowers there are over few names -/
def wordsN (B : Nat) : Nat → List (List Nat)
  | 0 => [[]]
  | n + 1 => (wordsN B n).flatMap fun w => (List.range B).map fun d => d :: w
theorem wordsN_len (B : Nat) : ∀ n, (wordsN B n).length = B ^ n
  | 0 => rfl
  | n + 1 => by
    unfold wordsN
    rw [List.length_flatMap]
    have e : ((wordsN B n).map fun w => ((List.range B).map fun d => d :: w).length) = (wordsN B n).map fun _ => B := List.map_congr_left fun w _ => by simp
    rw [e, List.map_const', List.sum_replicate_nat, wordsN_len B n, Nat.pow_succ]
theorem wordsN_mem {B : Nat} : ∀ (n : Nat) (w : List Nat), w.length = n → (∀ d ∈ w, d < B) → w ∈ wordsN B n
  | 0, [], _, _ => by simp [wordsN]
  | n + 1, d :: w, h, hd => by
    unfold wordsN
    refine List.mem_flatMap.mpr ⟨w, wordsN_mem n w (by simpa using h) fun x hx => hd x (List.mem_cons_of_mem _ hx), List.mem_map.mpr ⟨d, List.mem_range.mpr (hd d (List.mem_cons_self ..)), rfl⟩⟩
def digit (L : List (List Str)) (p : List Nat) (x : Str) : Nat := if p.all (fun a => decide (x ∈ sAt L a)) = true then p.length + 1 else p.findIdx fun a => decide (x ∈ sAt L a)
theorem digit_lt (L : List (List Str)) (p : List Nat) (x : Str) : digit L p x < p.length + 2 := by
  unfold digit
  split
  · omega
  · have := List.findIdx_le_length (p := fun a => decide (x ∈ sAt L a)) (xs := p)
    omega
theorem flc_two {L : List (List Str)} {c : List Str} {p : List Nat} (h : FlC L c p) {i j : Nat} (hi : i < j) (hj : j < p.length) : meetL (sAt L (p[i]'(by omega))) (sAt L p[j]) = c :=
  ((List.pairwise_iff_getElem.mp h.1) i j (by omega) hj hi).2
theorem flc_all {L : List (List Str)} {c : List Str} {p : List Nat} (h : FlC L c p) (h2 : 2 ≤ p.length) {x : Str} (hx : x ∈ c) {i : Nat} (hi : i < p.length) : x ∈ sAt L p[i] := by
  rcases Nat.eq_zero_or_pos i with rfl | h0
  · have e := flc_two h (i := 0) (j := 1) (by omega) (by omega)
    rw [← e] at hx
    exact (meetL_mem.mp hx).1
  · have e := flc_two h (i := 0) (j := i) h0 hi
    rw [← e] at hx
    exact (meetL_mem.mp hx).2
theorem digit_iff {L : List (List Str)} {c : List Str} {p : List Nat} (h : FlC L c p) (h2 : 2 ≤ p.length) {i : Nat} (hi : i < p.length) {x : Str} : x ∈ sAt L p[i] ↔ digit L p x = p.length + 1 ∨ digit L p x = i := by
  unfold digit
  split
  · rename_i ha
    rw [List.all_eq_true] at ha
    exact ⟨fun _ => .inl rfl, fun _ => by simpa using ha _ (List.getElem_mem hi)⟩
  · rename_i ha
    have hle := List.findIdx_le_length (p := fun a => decide (x ∈ sAt L a)) (xs := p)
    constructor
    · intro hx
      right
      have h1 : p.findIdx (fun a => decide (x ∈ sAt L a)) ≤ i := by
        rcases Nat.lt_or_ge i (p.findIdx fun a => decide (x ∈ sAt L a)) with c1 | c1
        · have := List.not_of_lt_findIdx c1
          simp at this
          exact (this hx).elim
        · exact c1
      rcases Nat.lt_or_ge (p.findIdx fun a => decide (x ∈ sAt L a)) i with c1 | c1
      · exfalso
        have hj : p.findIdx (fun a => decide (x ∈ sAt L a)) < p.length := by omega
        have hx2 : x ∈ sAt L (p[p.findIdx fun a => decide (x ∈ sAt L a)]'hj) := by
          have := List.findIdx_getElem (w := hj)
          simpa using this
        have hc : x ∈ c := by
          rw [← flc_two h c1 hi]
          exact meetL_mem.mpr ⟨hx2, hx⟩
        refine ha (List.all_eq_true.mpr fun a hm => ?_)
        obtain ⟨k, hk, rfl⟩ := List.getElem_of_mem hm
        simpa using flc_all h h2 hc hk
      · omega
    · rintro (e | e)
      · omega
      · subst e
        have := List.findIdx_getElem (w := hi)
        simpa using this
theorem code_inj {L : List (List Str)} {names : List Str} (hn : L.Nodup) (hS : ∀ s ∈ L, s.Pairwise lO) (hs : ∀ s ∈ L, ∀ x ∈ s, x ∈ names) {c d : List Str} {p q : List Nat} (hp : FlC L c p) (hq : FlC L d q) (h2 : 2 ≤ p.length) (hl : p.length = q.length) (e : names.map (digit L p) = names.map (digit L q)) : p = q := by
  refine List.ext_getElem hl fun i h3 h4 => ?_
  have a1 := hp.2 _ (List.getElem_mem h3)
  have b1 := hq.2 _ (List.getElem_mem h4)
  refine sAt_inj hn a1 b1 ?_
  refine lt_unique (hS _ (sAt_mem' a1)) (hS _ (sAt_mem' b1)) fun x => ?_
  have key : x ∈ names → (x ∈ sAt L p[i] ↔ x ∈ sAt L q[i]) := fun hx => by
    have e1 : digit L p x = digit L q x := List.map_inj_left.mp e x hx
    rw [digit_iff hp h2 h3, digit_iff hq (by omega) h4, e1, hl]
  exact ⟨fun h => (key (hs _ (sAt_mem' a1) x h)).mp h, fun h => (key (hs _ (sAt_mem' b1) x h)).mpr h⟩
theorem levF_few {L : List (List Str)} {names : List Str} (hn : L.Nodup) (hS : ∀ s ∈ L, s.Pairwise lO) (hs : ∀ s ∈ L, ∀ x ∈ s, x ∈ names) (k : Nat) : (levF L k).length ≤ (k + 4) ^ names.length := by
  have h1 : ((levF L k).map fun r => names.map (digit L r.1)).Nodup := by
    have h0 : (levF L k).Nodup := (levF_lex L k).1.imp fun {a b} h e => by subst e; exact lex_irr _ h
    refine nodup_inj h0 fun a ha b hb e => ?_
    obtain ⟨a1, a2⟩ := (levF_mem k a).mp ha
    obtain ⟨b1, b2⟩ := (levF_mem k b).mp hb
    have e1 := code_inj hn hS hs a2 b2 (by omega) (by omega) e
    have e2 : a.2 = b.2 := by
      rw [← e1] at b2
      exact a2.core b2 (by omega)
    exact Prod.ext e1 e2
  have h2 := ZT.len_sub _ (wordsN (k + 4) names.length) h1 fun w hw => by
    obtain ⟨r, hr, rfl⟩ := List.mem_map.mp hw
    refine wordsN_mem _ _ (by simp) fun d hd => ?_
    obtain ⟨x, _, rfl⟩ := List.mem_map.mp hd
    have := digit_lt L r.1 x
    have := ((levF_mem k r).mp hr).1
    omega
  rw [List.length_map, wordsN_len] at h2
  exact h2
/-! sets of few names -/
def subs : List Str → List (List Str)
  | [] => [[]]
  | x :: r => subs r ++ (subs r).map fun s => x :: s
theorem subs_len : ∀ ns : List Str, (subs ns).length = 2 ^ ns.length
  | [] => rfl
  | x :: r => by
    unfold subs
    rw [List.length_append, List.length_map, subs_len r, List.length_cons, Nat.pow_succ]; omega
theorem subs_mem : ∀ {ns s : List Str}, s.Sublist ns → s ∈ subs ns
  | _, _, .slnil => by simp [subs]
  | _, _, .cons x h => by unfold subs; exact List.mem_append_left _ (subs_mem h)
  | _, _, .cons₂ x h => by unfold subs; exact List.mem_append_right _ (List.mem_map.mpr ⟨_, subs_mem h, rfl⟩)
theorem sub_of {names s : List Str} (hs : s.Pairwise lO) (h : ∀ x ∈ s, x ∈ names) : s ∈ subs (sset names) := by
  refine subs_mem ?_
  have e : (sset names).filter (fun x => decide (x ∈ s)) = s := lt_unique ((sset_lt names).sublist List.filter_sublist) hs fun x => by
    rw [List.mem_filter, sset_mem]
    exact ⟨fun z => by simpa using z.2, fun z => ⟨h x z, by simpa using z⟩⟩
  rw [← e]
  exact List.filter_sublist
end Law
namespace Law
open PySem Z
structure Lim (L : List (List Str)) (m : Nat) : Prop where
  mm : 2 ≤ m ∧ m ≤ 12
  len : L.length ≤ 1000
  six : ∀ s ∈ L, s.length ≤ 100
  rows : ∀ k, k + 2 ≤ m → (levF L k).length ≤ 6000000
/-- few names: unlike sets, in order -/
structure Few (names : List Str) (L : List (List Str)) : Prop where
  nm : names.length ≤ 8
  lt : L.Pairwise ltT
  srt : ∀ s ∈ L, s.Pairwise lO
  sub : ∀ s ∈ L, ∀ x ∈ s, x ∈ names
section
variable {names : List Str} {L : List (List Str)}
theorem Few.nd (h : Few names L) : L.Nodup := ltT_nodup h.lt
theorem subs_few {names : List Str} (h : names.length ≤ 8) : (subs (sset names)).length ≤ 256 := by
  rw [subs_len]
  exact Nat.pow_le_pow_right (n := 2) (by decide) (Nat.le_trans (sset_len names) h)
theorem Few.len (h : Few names L) : L.length ≤ 256 := Nat.le_trans (ZT.len_sub L _ h.nd fun s hs => sub_of (h.srt s hs) (h.sub s hs)) (subs_few h.nm)
theorem Few.six (h : Few names L) : ∀ s ∈ L, s.length ≤ 8 := fun s hs => Nat.le_trans (ZT.len_sub s names (lt_nodup (h.srt s hs)) (h.sub s hs)) h.nm
theorem Few.rows (h : Few names L) (k : Nat) : (levF L k).length ≤ (k + 4) ^ 8 :=
  Nat.le_trans (levF_few h.nd h.srt h.sub k) (Nat.pow_le_pow_right (by omega) h.nm)
theorem Few.lim (h : Few names L) {m : Nat} (hm : 2 ≤ m ∧ m ≤ 5) : Lim L m := by
  refine ⟨by omega, Nat.le_trans h.len (by decide), fun s hs => Nat.le_trans (h.six s hs) (by decide), fun k hk => Nat.le_trans (h.rows k) ?_⟩
  exact Nat.le_trans (Nat.pow_le_pow_left (show k + 4 ≤ 7 by omega) 8) (by decide)
theorem lim14 (hl : L.length ≤ 14) (h6 : ∀ s ∈ L, s.length ≤ 100) {m : Nat} (hm : 2 ≤ m ∧ m ≤ 12) : Lim L m :=
  ⟨hm, by omega, h6, fun k _ => Nat.le_trans (levF_len L k) (Nat.le_trans (Nat.pow_le_pow_right (by decide) hl) (by decide))⟩
end
end Law
namespace Law
open PySem Z
/-! ### words over five signs with three budgets: 0, 1, 2 take of one each, 4 takes of all, 3 of none -/
def wordsC : Nat → Nat → Nat → Nat → List (List Nat)
  | 0, _, _, _ => [[]]
  | n + 1, a, b, c => (wordsC n a b c).map (3 :: ·) ++ ((if a = 0 then [] else (wordsC n (a - 1) b c).map (0 :: ·)) ++ ((if b = 0 then [] else (wordsC n a (b - 1) c).map (1 :: ·)) ++
      ((if c = 0 then [] else (wordsC n a b (c - 1)).map (2 :: ·)) ++ (if a = 0 ∨ b = 0 ∨ c = 0 then [] else (wordsC n (a - 1) (b - 1) (c - 1)).map (4 :: ·)))))
def tk (i : Nat) (w : List Nat) : Nat := (w.filter fun d => decide (d = i ∨ d = 4)).length
theorem tk_cons (i d : Nat) (w : List Nat) : tk i (d :: w) = (if d = i ∨ d = 4 then 1 else 0) + tk i w := by
  unfold tk
  rw [List.filter_cons]
  split
  · rename_i h
    rw [if_pos (by simpa using h), List.length_cons]; omega
  · rename_i h
    rw [if_neg (by simpa using h)]; omega
theorem wordsC_mem : ∀ (w : List Nat) (a b c : Nat), (∀ d ∈ w, d < 5) → tk 0 w ≤ a → tk 1 w ≤ b → tk 2 w ≤ c → w ∈ wordsC w.length a b c
  | [], _, _, _, _, _, _, _ => by simp [wordsC]
  | d :: w, a, b, c, hd, h0, h1, h2 => by
    have hd0 := hd d (List.mem_cons_self ..)
    have hw : ∀ d ∈ w, d < 5 := fun x hx => hd x (List.mem_cons_of_mem _ hx)
    rw [tk_cons] at h0 h1 h2
    show d :: w ∈ wordsC (w.length + 1) a b c
    unfold wordsC
    simp only [List.mem_append]
    match d, hd0 with
    | 0, _ =>
      simp at h0 h1 h2
      right; left
      rw [if_neg (by omega)]
      exact List.mem_map_of_mem (wordsC_mem w (a - 1) b c hw (by omega) (by omega) (by omega))
    | 1, _ =>
      simp at h0 h1 h2
      right; right; left
      rw [if_neg (by omega)]
      exact List.mem_map_of_mem (wordsC_mem w a (b - 1) c hw (by omega) (by omega) (by omega))
    | 2, _ =>
      simp at h0 h1 h2
      right; right; right; left
      rw [if_neg (by omega)]
      exact List.mem_map_of_mem (wordsC_mem w a b (c - 1) hw (by omega) (by omega) (by omega))
    | 3, _ =>
      simp at h0 h1 h2
      left
      exact List.mem_map_of_mem (wordsC_mem w a b c hw (by omega) (by omega) (by omega))
    | 4, _ =>
      simp at h0 h1 h2
      right; right; right; right
      rw [if_neg (by omega)]
      exact List.mem_map_of_mem (wordsC_mem w (a - 1) (b - 1) (c - 1) hw (by omega) (by omega) (by omega))
theorem wordsC_step (n a b c : Nat) : (wordsC (n + 1) a b c).length = (wordsC n a b c).length + ((if a = 0 then 0 else (wordsC n (a - 1) b c).length) + ((if b = 0 then 0 else (wordsC n a (b - 1) c).length) +
    ((if c = 0 then 0 else (wordsC n a b (c - 1)).length) + (if a = 0 ∨ b = 0 ∨ c = 0 then 0 else (wordsC n (a - 1) (b - 1) (c - 1)).length)))) := by
  conv => lhs; unfold wordsC
  simp only [List.length_append, List.length_map]
  congr 1
  congr 1
  · split <;> simp
  · congr 1
    · split <;> simp
    · congr 1
      · split <;> simp
      · split <;> simp
theorem wordsC_up (a b c : Nat) : ∀ {n m : Nat}, n ≤ m → (wordsC n a b c).length ≤ (wordsC m a b c).length := by
  intro n m h
  induction h with
  | refl => exact Nat.le_refl _
  | step _ ih => exact Nat.le_trans ih (by rw [wordsC_step]; omega)
def stepT (t : List Nat) : List Nat := (List.range 216).map fun i => t.getD i 0 + ((if i / 36 = 0 then 0 else t.getD (i - 36) 0) + ((if i / 6 % 6 = 0 then 0 else t.getD (i - 6) 0) + ((if i % 6 = 0 then 0 else t.getD (i - 1) 0) +
    (if i / 36 = 0 ∨ i / 6 % 6 = 0 ∨ i % 6 = 0 then 0 else t.getD (i - 43) 0))))
def TabOk (n : Nat) (t : List Nat) : Prop := ∀ a b c, a < 6 → b < 6 → c < 6 → (wordsC n a b c).length = t.getD (36 * a + 6 * b + c) 0
theorem TabOk.step {n : Nat} {t : List Nat} (h : TabOk n t) : TabOk (n + 1) (stepT t) := fun a b c ha hb hc => by
  have hi : 36 * a + 6 * b + c < 216 := by omega
  have e1 : (36 * a + 6 * b + c) / 36 = a := by omega
  have e2 : (36 * a + 6 * b + c) / 6 % 6 = b := by omega
  have e3 : (36 * a + 6 * b + c) % 6 = c := by omega
  rw [wordsC_step]
  unfold stepT
  rw [List.getD_eq_getElem?_getD, List.getElem?_map, List.getElem?_range hi]
  simp only [Option.map_some, Option.getD_some]
  rw [e1, e2, e3]
  congr 1
  · exact h a b c ha hb hc
  congr 1
  · split
    · rfl
    · rw [h (a - 1) b c (by omega) hb hc]; congr 1; omega
  congr 1
  · split
    · rfl
    · rw [h a (b - 1) c ha (by omega) hc]; congr 1; omega
  congr 1
  · split
    · rfl
    · rw [h a b (c - 1) ha hb (by omega)]; congr 1; omega
  · split
    · rfl
    · rw [h (a - 1) (b - 1) (c - 1) (by omega) (by omega) (by omega)]; congr 1; omega
def tab0 : List Nat := [1, 1, 1, 1, 1, 1, 1, 1, 1, 1, 1, 1, 1, 1, 1, 1, 1, 1, 1, 1, 1, 1, 1, 1, 1, 1, 1, 1, 1, 1, 1, 1, 1, 1, 1, 1, 1, 1, 1, 1, 1, 1, 1, 1, 1, 1, 1, 1, 1, 1, 1, 1, 1, 1, 1, 1, 1, 1, 1, 1, 1, 1, 1, 1, 1, 1, 1, 1, 1, 1, 1, 1, 1, 1, 1, 1, 1, 1, 1, 1, 1, 1, 1, 1, 1, 1, 1, 1, 1, 1, 1, 1, 1, 1, 1, 1, 1, 1, 1, 1, 1, 1, 1, 1, 1, 1, 1, 1, 1, 1, 1, 1, 1, 1, 1, 1, 1, 1, 1, 1, 1, 1, 1, 1, 1, 1, 1, 1, 1, 1, 1, 1, 1, 1, 1, 1, 1, 1, 1, 1, 1, 1, 1, 1, 1, 1, 1, 1, 1, 1, 1, 1, 1, 1, 1, 1, 1, 1, 1, 1, 1, 1, 1, 1, 1, 1, 1, 1, 1, 1, 1, 1, 1, 1, 1, 1, 1, 1, 1, 1, 1, 1, 1, 1, 1, 1, 1, 1, 1, 1, 1, 1, 1, 1, 1, 1, 1, 1, 1, 1, 1, 1, 1, 1, 1, 1, 1, 1, 1, 1, 1, 1, 1, 1, 1, 1]
def tab1 : List Nat := [1, 2, 2, 2, 2, 2, 2, 3, 3, 3, 3, 3, 2, 3, 3, 3, 3, 3, 2, 3, 3, 3, 3, 3, 2, 3, 3, 3, 3, 3, 2, 3, 3, 3, 3, 3, 2, 3, 3, 3, 3, 3, 3, 5, 5, 5, 5, 5, 3, 5, 5, 5, 5, 5, 3, 5, 5, 5, 5, 5, 3, 5, 5, 5, 5, 5, 3, 5, 5, 5, 5, 5, 2, 3, 3, 3, 3, 3, 3, 5, 5, 5, 5, 5, 3, 5, 5, 5, 5, 5, 3, 5, 5, 5, 5, 5, 3, 5, 5, 5, 5, 5, 3, 5, 5, 5, 5, 5, 2, 3, 3, 3, 3, 3, 3, 5, 5, 5, 5, 5, 3, 5, 5, 5, 5, 5, 3, 5, 5, 5, 5, 5, 3, 5, 5, 5, 5, 5, 3, 5, 5, 5, 5, 5, 2, 3, 3, 3, 3, 3, 3, 5, 5, 5, 5, 5, 3, 5, 5, 5, 5, 5, 3, 5, 5, 5, 5, 5, 3, 5, 5, 5, 5, 5, 3, 5, 5, 5, 5, 5, 2, 3, 3, 3, 3, 3, 3, 5, 5, 5, 5, 5, 3, 5, 5, 5, 5, 5, 3, 5, 5, 5, 5, 5, 3, 5, 5, 5, 5, 5, 3, 5, 5, 5, 5, 5]
def tab2 : List Nat := [1, 3, 4, 4, 4, 4, 3, 7, 8, 8, 8, 8, 4, 8, 9, 9, 9, 9, 4, 8, 9, 9, 9, 9, 4, 8, 9, 9, 9, 9, 4, 8, 9, 9, 9, 9, 3, 7, 8, 8, 8, 8, 7, 15, 18, 18, 18, 18, 8, 18, 21, 21, 21, 21, 8, 18, 21, 21, 21, 21, 8, 18, 21, 21, 21, 21, 8, 18, 21, 21, 21, 21, 4, 8, 9, 9, 9, 9, 8, 18, 21, 21, 21, 21, 9, 21, 25, 25, 25, 25, 9, 21, 25, 25, 25, 25, 9, 21, 25, 25, 25, 25, 9, 21, 25, 25, 25, 25, 4, 8, 9, 9, 9, 9, 8, 18, 21, 21, 21, 21, 9, 21, 25, 25, 25, 25, 9, 21, 25, 25, 25, 25, 9, 21, 25, 25, 25, 25, 9, 21, 25, 25, 25, 25, 4, 8, 9, 9, 9, 9, 8, 18, 21, 21, 21, 21, 9, 21, 25, 25, 25, 25, 9, 21, 25, 25, 25, 25, 9, 21, 25, 25, 25, 25, 9, 21, 25, 25, 25, 25, 4, 8, 9, 9, 9, 9, 8, 18, 21, 21, 21, 21, 9, 21, 25, 25, 25, 25, 9, 21, 25, 25, 25, 25, 9, 21, 25, 25, 25, 25, 9, 21, 25, 25, 25, 25]
def tab3 : List Nat := [1, 4, 7, 8, 8, 8, 4, 13, 19, 20, 20, 20, 7, 19, 25, 26, 26, 26, 8, 20, 26, 27, 27, 27, 8, 20, 26, 27, 27, 27, 8, 20, 26, 27, 27, 27, 4, 13, 19, 20, 20, 20, 13, 37, 52, 56, 56, 56, 19, 52, 73, 77, 77, 77, 20, 56, 77, 81, 81, 81, 20, 56, 77, 81, 81, 81, 20, 56, 77, 81, 81, 81, 7, 19, 25, 26, 26, 26, 19, 52, 73, 77, 77, 77, 25, 73, 103, 110, 110, 110, 26, 77, 110, 117, 117, 117, 26, 77, 110, 117, 117, 117, 26, 77, 110, 117, 117, 117, 8, 20, 26, 27, 27, 27, 20, 56, 77, 81, 81, 81, 26, 77, 110, 117, 117, 117, 27, 81, 117, 125, 125, 125, 27, 81, 117, 125, 125, 125, 27, 81, 117, 125, 125, 125, 8, 20, 26, 27, 27, 27, 20, 56, 77, 81, 81, 81, 26, 77, 110, 117, 117, 117, 27, 81, 117, 125, 125, 125, 27, 81, 117, 125, 125, 125, 27, 81, 117, 125, 125, 125, 8, 20, 26, 27, 27, 27, 20, 56, 77, 81, 81, 81, 26, 77, 110, 117, 117, 117, 27, 81, 117, 125, 125, 125, 27, 81, 117, 125, 125, 125, 27, 81, 117, 125, 125, 125]
def tab4 : List Nat := [1, 5, 11, 15, 16, 16, 5, 21, 39, 47, 48, 48, 11, 39, 63, 71, 72, 72, 15, 47, 71, 79, 80, 80, 16, 48, 72, 80, 81, 81, 16, 48, 72, 80, 81, 81, 5, 21, 39, 47, 48, 48, 21, 77, 131, 155, 160, 160, 39, 131, 215, 251, 256, 256, 47, 155, 251, 287, 292, 292, 48, 160, 256, 292, 297, 297, 48, 160, 256, 292, 297, 297, 11, 39, 63, 71, 72, 72, 39, 131, 215, 251, 256, 256, 63, 215, 359, 419, 430, 430, 71, 251, 419, 491, 502, 502, 72, 256, 430, 502, 513, 513, 72, 256, 430, 502, 513, 513, 15, 47, 71, 79, 80, 80, 47, 155, 251, 287, 292, 292, 71, 251, 419, 491, 502, 502, 79, 287, 491, 579, 594, 594, 80, 292, 502, 594, 609, 609, 80, 292, 502, 594, 609, 609, 16, 48, 72, 80, 81, 81, 48, 160, 256, 292, 297, 297, 72, 256, 430, 502, 513, 513, 80, 292, 502, 594, 609, 609, 81, 297, 513, 609, 625, 625, 81, 297, 513, 609, 625, 625, 16, 48, 72, 80, 81, 81, 48, 160, 256, 292, 297, 297, 72, 256, 430, 502, 513, 513, 80, 292, 502, 594, 609, 609, 81, 297, 513, 609, 625, 625, 81, 297, 513, 609, 625, 625]
def tab5 : List Nat := [1, 6, 16, 26, 31, 32, 6, 31, 71, 101, 111, 112, 16, 71, 141, 181, 191, 192, 26, 101, 181, 221, 231, 232, 31, 111, 191, 231, 241, 242, 32, 112, 192, 232, 242, 243, 6, 31, 71, 101, 111, 112, 31, 141, 291, 391, 426, 432, 71, 291, 561, 731, 786, 792, 101, 391, 731, 931, 986, 992, 111, 426, 786, 986, 1041, 1047, 112, 432, 792, 992, 1047, 1053, 16, 71, 141, 181, 191, 192, 71, 291, 561, 731, 786, 792, 141, 561, 1081, 1411, 1516, 1532, 181, 731, 1411, 1831, 1966, 1982, 191, 786, 1516, 1966, 2101, 2117, 192, 792, 1532, 1982, 2117, 2133, 26, 101, 181, 221, 231, 232, 101, 391, 731, 931, 986, 992, 181, 731, 1411, 1831, 1966, 1982, 221, 931, 1831, 2411, 2596, 2622, 231, 986, 1966, 2596, 2801, 2827, 232, 992, 1982, 2622, 2827, 2853, 31, 111, 191, 231, 241, 242, 111, 426, 786, 986, 1041, 1047, 191, 786, 1516, 1966, 2101, 2117, 231, 986, 1966, 2596, 2801, 2827, 241, 1041, 2101, 2801, 3031, 3062, 242, 1047, 2117, 2827, 3062, 3093, 32, 112, 192, 232, 242, 243, 112, 432, 792, 992, 1047, 1053, 192, 792, 1532, 1982, 2117, 2133, 232, 992, 1982, 2622, 2827, 2853, 242, 1047, 2117, 2827, 3062, 3093, 243, 1053, 2133, 2853, 3093, 3125]
def tab6 : List Nat := [1, 7, 22, 42, 57, 63, 7, 43, 118, 198, 243, 255, 22, 118, 283, 423, 483, 495, 42, 198, 423, 583, 643, 655, 57, 243, 483, 643, 703, 715, 63, 255, 495, 655, 715, 727, 7, 43, 118, 198, 243, 255, 43, 235, 580, 900, 1065, 1113, 118, 580, 1315, 1935, 2235, 2313, 198, 900, 1935, 2755, 3115, 3193, 243, 1065, 2235, 3115, 3475, 3553, 255, 1113, 2313, 3193, 3553, 3631, 22, 118, 283, 423, 483, 495, 118, 580, 1315, 1935, 2235, 2313, 283, 1315, 2905, 4245, 4890, 5058, 423, 1935, 4245, 6145, 7030, 7258, 483, 2235, 4890, 7030, 8005, 8233, 495, 2313, 5058, 7258, 8233, 8461, 42, 198, 423, 583, 643, 655, 198, 900, 1935, 2755, 3115, 3193, 423, 1935, 4245, 6145, 7030, 7258, 583, 2755, 6145, 8985, 10350, 10698, 643, 3115, 7030, 10350, 11925, 12333, 655, 3193, 7258, 10698, 12333, 12741, 57, 243, 483, 643, 703, 715, 243, 1065, 2235, 3115, 3475, 3553, 483, 2235, 4890, 7030, 8005, 8233, 643, 3115, 7030, 10350, 11925, 12333, 703, 3475, 8005, 11925, 13845, 14343, 715, 3553, 8233, 12333, 14343, 14871, 63, 255, 495, 655, 715, 727, 255, 1113, 2313, 3193, 3553, 3631, 495, 2313, 5058, 7258, 8233, 8461, 655, 3193, 7258, 10698, 12333, 12741, 715, 3553, 8233, 12333, 14343, 14871, 727, 3631, 8461, 12741, 14871, 15435]
def tab7 : List Nat := [1, 8, 29, 64, 99, 120, 8, 57, 183, 358, 498, 561, 29, 183, 519, 904, 1149, 1233, 64, 358, 904, 1429, 1709, 1793, 99, 498, 1149, 1709, 1989, 2073, 120, 561, 1233, 1793, 2073, 2157, 8, 57, 183, 358, 498, 561, 57, 365, 1058, 1898, 2493, 2745, 183, 1058, 2801, 4691, 5916, 6399, 358, 1898, 4691, 7491, 9171, 9759, 498, 2493, 5916, 9171, 10991, 11579, 561, 2745, 6399, 9759, 11579, 12167, 29, 183, 519, 904, 1149, 1233, 183, 1058, 2801, 4691, 5916, 6399, 519, 2801, 7085, 11600, 14505, 15639, 904, 4691, 11600, 18705, 23115, 24774, 1149, 5916, 14505, 23115, 28295, 30164, 1233, 6399, 15639, 24774, 30164, 32033, 64, 358, 904, 1429, 1709, 1793, 358, 1898, 4691, 7491, 9171, 9759, 904, 4691, 11600, 18705, 23115, 24774, 1429, 7491, 18705, 30325, 37640, 40454, 1709, 9171, 23115, 37640, 46775, 50219, 1793, 9759, 24774, 40454, 50219, 53873, 99, 498, 1149, 1709, 1989, 2073, 498, 2493, 5916, 9171, 10991, 11579, 1149, 5916, 14505, 23115, 28295, 30164, 1709, 9171, 23115, 37640, 46775, 50219, 1989, 10991, 28295, 46775, 58605, 63204, 2073, 11579, 30164, 50219, 63204, 68223, 120, 561, 1233, 1793, 2073, 2157, 561, 2745, 6399, 9759, 11579, 12167, 1233, 6399, 15639, 24774, 30164, 32033, 1793, 9759, 24774, 40454, 50219, 53873, 2073, 11579, 30164, 50219, 63204, 68223, 2157, 12167, 32033, 53873, 68223, 73893]
def tab8 : List Nat := [1, 9, 37, 93, 163, 219, 9, 73, 269, 605, 955, 1179, 37, 269, 885, 1781, 2551, 2943, 93, 605, 1781, 3237, 4287, 4735, 163, 955, 2551, 4287, 5407, 5855, 219, 1179, 2943, 4735, 5855, 6303, 9, 73, 269, 605, 955, 1179, 73, 537, 1797, 3701, 5451, 6459, 269, 1797, 5493, 10477, 14607, 16791, 605, 3701, 10477, 18821, 25191, 28271, 955, 5451, 14607, 25191, 32751, 36111, 1179, 6459, 16791, 28271, 36111, 39471, 37, 269, 885, 1781, 2551, 2943, 269, 1797, 5493, 10477, 14607, 16791, 885, 5493, 15853, 29125, 39835, 45435, 1781, 10477, 29125, 52197, 70187, 79203, 2551, 14607, 39835, 70187, 93007, 103983, 2943, 16791, 45435, 79203, 103983, 115519, 93, 605, 1781, 3237, 4287, 4735, 605, 3701, 10477, 18821, 25191, 28271, 1781, 10477, 29125, 52197, 70187, 79203, 3237, 18821, 52197, 93525, 125795, 142147, 4287, 25191, 70187, 125795, 169055, 190727, 4735, 28271, 79203, 142147, 190727, 214639, 163, 955, 2551, 4287, 5407, 5855, 955, 5451, 14607, 25191, 32751, 36111, 2551, 14607, 39835, 70187, 93007, 103983, 4287, 25191, 70187, 125795, 169055, 190727, 5407, 32751, 93007, 169055, 229255, 259887, 5855, 36111, 103983, 190727, 259887, 295279, 219, 1179, 2943, 4735, 5855, 6303, 1179, 6459, 16791, 28271, 36111, 39471, 2943, 16791, 45435, 79203, 103983, 115519, 4735, 28271, 79203, 142147, 190727, 214639, 5855, 36111, 103983, 190727, 259887, 295279, 6303, 39471, 115519, 214639, 295279, 337167]
def tab9 : List Nat := [1, 10, 46, 130, 256, 382, 10, 91, 379, 967, 1723, 2353, 46, 379, 1423, 3271, 5287, 6673, 130, 967, 3271, 6799, 10075, 11965, 256, 1723, 5287, 10075, 13981, 15997, 382, 2353, 6673, 11965, 15997, 18013, 10, 91, 379, 967, 1723, 2353, 91, 757, 2881, 6745, 11155, 14431, 379, 2881, 10045, 21721, 33691, 41755, 967, 6745, 21721, 43897, 64687, 77539, 1723, 11155, 33691, 64687, 91777, 107275, 2353, 14431, 41755, 77539, 107275, 123403, 46, 379, 1423, 3271, 5287, 6673, 379, 2881, 10045, 21721, 33691, 41755, 1423, 10045, 32869, 67729, 101875, 124303, 3271, 21721, 67729, 134761, 197887, 237703, 5287, 33691, 101875, 197887, 284953, 337495, 6673, 41755, 124303, 237703, 337495, 395707, 130, 967, 3271, 6799, 10075, 11965, 967, 6745, 21721, 43897, 64687, 77539, 3271, 21721, 67729, 134761, 197887, 237703, 6799, 43897, 134761, 265969, 388819, 466183, 10075, 64687, 197887, 388819, 565849, 676099, 11965, 77539, 237703, 466183, 676099, 804619, 256, 1723, 5287, 10075, 13981, 15997, 1723, 11155, 33691, 64687, 91777, 107275, 5287, 33691, 101875, 197887, 284953, 337495, 10075, 64687, 197887, 388819, 565849, 676099, 13981, 91777, 284953, 565849, 829945, 996391, 15997, 107275, 337495, 676099, 996391, 1198747, 382, 2353, 6673, 11965, 15997, 18013, 2353, 14431, 41755, 77539, 107275, 123403, 6673, 41755, 124303, 237703, 337495, 395707, 11965, 77539, 237703, 466183, 676099, 804619, 15997, 107275, 337495, 676099, 996391, 1198747, 18013, 123403, 395707, 804619, 1198747, 1452259]
def tab10 : List Nat := [1, 11, 56, 176, 386, 638, 11, 111, 516, 1476, 2946, 4458, 56, 516, 2181, 5661, 10281, 14313, 176, 1476, 5661, 13341, 22161, 28713, 386, 2946, 10281, 22161, 34131, 41943, 638, 4458, 14313, 28713, 41943, 50007, 11, 111, 516, 1476, 2946, 4458, 111, 1031, 4406, 11606, 21476, 30548, 516, 4406, 17321, 42161, 72821, 98273, 1476, 11606, 42161, 95561, 155621, 201233, 2946, 21476, 72821, 155621, 241931, 302663, 4458, 30548, 98273, 201233, 302663, 369947, 56, 516, 2181, 5661, 10281, 14313, 516, 4406, 17321, 42161, 72821, 98273, 2181, 17321, 63761, 146921, 243731, 320843, 5661, 42161, 146921, 324161, 520931, 671123, 10281, 72821, 243731, 520931, 816401, 1032113, 14313, 98273, 320843, 671123, 1032113, 1285877, 176, 1476, 5661, 13341, 22161, 28713, 1476, 11606, 42161, 95561, 155621, 201233, 5661, 42161, 146921, 324161, 520931, 671123, 13341, 95561, 324161, 703121, 1118291, 1432283, 22161, 155621, 520931, 1118291, 1763201, 2243513, 28713, 201233, 671123, 1432283, 2243513, 2837477, 386, 2946, 10281, 22161, 34131, 41943, 2946, 21476, 72821, 155621, 241931, 302663, 10281, 72821, 243731, 520931, 816401, 1032113, 22161, 155621, 520931, 1118291, 1763201, 2243513, 34131, 241931, 816401, 1763201, 2793461, 3567353, 41943, 302663, 1032113, 2243513, 3567353, 4561997, 638, 4458, 14313, 28713, 41943, 50007, 4458, 30548, 98273, 201233, 302663, 369947, 14313, 98273, 320843, 671123, 1032113, 1285877, 28713, 201233, 671123, 1432283, 2243513, 2837477, 41943, 302663, 1032113, 2243513, 3567353, 4561997, 50007, 369947, 1285877, 2837477, 4561997, 5878445]
def tab11 : List Nat := [1, 12, 67, 232, 562, 1024, 12, 133, 683, 2168, 4808, 8042, 67, 683, 3213, 9318, 18888, 29052, 232, 2168, 9318, 24663, 45783, 65187, 562, 4808, 18888, 45783, 78453, 104787, 1024, 8042, 29052, 65187, 104787, 133893, 12, 133, 683, 2168, 4808, 8042, 133, 1365, 6480, 19020, 39150, 61326, 683, 6480, 28425, 77265, 148215, 218901, 2168, 19020, 77265, 195405, 351825, 494121, 4808, 39150, 148215, 351825, 600645, 809931, 8042, 61326, 218901, 494121, 809931, 1059411, 67, 683, 3213, 9318, 18888, 29052, 683, 6480, 28425, 77265, 148215, 218901, 3213, 28425, 116755, 299410, 547900, 782596, 9318, 77265, 299410, 730885, 1286605, 1786951, 18888, 148215, 547900, 1286605, 2195755, 2977921, 29052, 218901, 782596, 1786951, 2977921, 3961981, 232, 2168, 9318, 24663, 45783, 65187, 2168, 19020, 77265, 195405, 351825, 494121, 9318, 77265, 299410, 730885, 1286605, 1786951, 24663, 195405, 730885, 1739365, 3010195, 4136551, 45783, 351825, 1286605, 3010195, 5140345, 6992041, 65187, 494121, 1786951, 4136551, 6992041, 9426781, 562, 4808, 18888, 45783, 78453, 104787, 4808, 39150, 148215, 351825, 600645, 809931, 18888, 148215, 547900, 1286605, 2195755, 2977921, 45783, 351825, 1286605, 3010195, 5140345, 6992041, 78453, 600645, 2195755, 5140345, 8786185, 11966131, 104787, 809931, 2977921, 6992041, 11966131, 16297381, 1024, 8042, 29052, 65187, 104787, 133893, 8042, 61326, 218901, 494121, 809931, 1059411, 29052, 218901, 782596, 1786951, 2977921, 3961981, 65187, 494121, 1786951, 4136551, 6992041, 9426781, 104787, 809931, 2977921, 6992041, 11966131, 16297381, 133893, 1059411, 3961981, 9426781, 16297381, 22357897]
def tab12 : List Nat := [1, 13, 79, 299, 794, 1586, 13, 157, 883, 3083, 7538, 13874, 79, 883, 4579, 14699, 33014, 55982, 299, 3083, 14699, 43299, 89334, 140022, 794, 7538, 33014, 89334, 170019, 248427, 1586, 13874, 55982, 140022, 248427, 343467, 13, 157, 883, 3083, 7538, 13874, 157, 1765, 9223, 29903, 68018, 117122, 883, 9223, 44731, 134711, 285686, 462302, 3083, 29903, 134711, 377811, 750546, 1148922, 7538, 68018, 285686, 750546, 1407411, 2055267, 13874, 117122, 462302, 1148922, 2055267, 2891619, 79, 883, 4579, 14699, 33014, 55982, 883, 9223, 44731, 134711, 285686, 462302, 4579, 44731, 203395, 577175, 1162760, 1807448, 14699, 134711, 577175, 1553535, 2994480, 4498488, 33014, 285686, 1162760, 2994480, 5565015, 8122383, 55982, 462302, 1807448, 4498488, 8122383, 11577879, 299, 3083, 14699, 43299, 89334, 140022, 3083, 29903, 134711, 377811, 750546, 1148922, 14699, 134711, 577175, 1553535, 2994480, 4498488, 43299, 377811, 1553535, 4048775, 7622180, 11268548, 89334, 750546, 2994480, 7622180, 14087375, 20533463, 140022, 1148922, 4498488, 11268548, 20533463, 29568599, 794, 7538, 33014, 89334, 170019, 248427, 7538, 68018, 285686, 750546, 1407411, 2055267, 33014, 285686, 1162760, 2994480, 5565015, 8122383, 89334, 750546, 2994480, 7622180, 14087375, 20533463, 170019, 1407411, 5565015, 14087375, 25946585, 37746593, 248427, 2055267, 8122383, 20533463, 37746593, 54796769, 1586, 13874, 55982, 140022, 248427, 343467, 13874, 117122, 462302, 1148922, 2055267, 2891619, 55982, 462302, 1807448, 4498488, 8122383, 11577879, 140022, 1148922, 4498488, 11268548, 20533463, 29568599, 248427, 2055267, 8122383, 20533463, 37746593, 54796769, 343467, 2891619, 11577879, 29568599, 54796769, 80036225]
theorem tab_1 : stepT tab0 = tab1 := by decide +kernel
theorem tab_2 : stepT tab1 = tab2 := by decide +kernel
theorem tab_3 : stepT tab2 = tab3 := by decide +kernel
theorem tab_4 : stepT tab3 = tab4 := by decide +kernel
theorem tab_5 : stepT tab4 = tab5 := by decide +kernel
theorem tab_6 : stepT tab5 = tab6 := by decide +kernel
theorem tab_7 : stepT tab6 = tab7 := by decide +kernel
theorem tab_8 : stepT tab7 = tab8 := by decide +kernel
theorem tab_9 : stepT tab8 = tab9 := by decide +kernel
theorem tab_10 : stepT tab9 = tab10 := by decide +kernel
theorem tab_11 : stepT tab10 = tab11 := by decide +kernel
theorem tab_12 : stepT tab11 = tab12 := by decide +kernel
theorem tab_ok0 : TabOk 0 tab0 := fun a b c ha hb hc => by
  have h : ∀ i : Nat, i < 216 → tab0.getD i 0 = 1 := by decide +kernel
  rw [h _ (by omega)]; rfl
theorem tab_ok1 : TabOk 1 tab1 := tab_1 ▸ tab_ok0.step
theorem tab_ok2 : TabOk 2 tab2 := tab_2 ▸ tab_ok1.step
theorem tab_ok3 : TabOk 3 tab3 := tab_3 ▸ tab_ok2.step
theorem tab_ok4 : TabOk 4 tab4 := tab_4 ▸ tab_ok3.step
theorem tab_ok5 : TabOk 5 tab5 := tab_5 ▸ tab_ok4.step
theorem tab_ok6 : TabOk 6 tab6 := tab_6 ▸ tab_ok5.step
theorem tab_ok7 : TabOk 7 tab7 := tab_7 ▸ tab_ok6.step
theorem tab_ok8 : TabOk 8 tab8 := tab_8 ▸ tab_ok7.step
theorem tab_ok9 : TabOk 9 tab9 := tab_9 ▸ tab_ok8.step
theorem tab_ok10 : TabOk 10 tab10 := tab_10 ▸ tab_ok9.step
theorem tab_ok11 : TabOk 11 tab11 := tab_11 ▸ tab_ok10.step
theorem tab_ok12 : TabOk 12 tab12 := tab_12 ▸ tab_ok11.step
/-- three sets of at most five of twelve names -/
theorem words_5 {n : Nat} (h : n ≤ 12) : (wordsC n 5 5 5).length ≤ 80036225 := Nat.le_trans (wordsC_up 5 5 5 h) (by rw [tab_ok12 5 5 5 (by decide) (by decide) (by decide)]; decide +kernel)
end Law
namespace Law
open PySem Z
/-! ### flowers of three over twelve names: those of sets of at most five names, by words -/
def dg3 (A B C : List Str) (x : Str) : Nat := if x ∈ A then (if x ∈ B then 4 else 0) else if x ∈ B then 1 else if x ∈ C then 2 else 3
structure Tri (A B C c : List Str) : Prop where
  ab : ∀ x, x ∈ c ↔ x ∈ A ∧ x ∈ B
  ac : ∀ x, x ∈ c ↔ x ∈ A ∧ x ∈ C
  bc : ∀ x, x ∈ c ↔ x ∈ B ∧ x ∈ C
section
variable {A B C c : List Str} {x : Str}
theorem dg3_lt : dg3 A B C x < 5 := by unfold dg3; repeat (first | split | decide)
theorem Tri.a (h : Tri A B C c) : x ∈ A ↔ dg3 A B C x = 0 ∨ dg3 A B C x = 4 := by
  unfold dg3
  by_cases hA : x ∈ A <;> by_cases hB : x ∈ B <;> by_cases hC : x ∈ C <;> simp [hA, hB, hC]
theorem Tri.b (h : Tri A B C c) : x ∈ B ↔ dg3 A B C x = 1 ∨ dg3 A B C x = 4 := by
  unfold dg3
  by_cases hA : x ∈ A <;> by_cases hB : x ∈ B <;> by_cases hC : x ∈ C <;> simp [hA, hB, hC]
theorem Tri.cc (h : Tri A B C c) : x ∈ C ↔ dg3 A B C x = 2 ∨ dg3 A B C x = 4 := by
  have h1 := h.ab x
  have h2 := h.ac x
  have h3 := h.bc x
  unfold dg3
  by_cases hA : x ∈ A <;> by_cases hB : x ∈ B <;> by_cases hC : x ∈ C <;> simp [hA, hB, hC] at h1 h2 h3 ⊢
  all_goals first | exact h2 h1 | exact h3 h1 | exact h1 h2 | exact h3 h2 | exact h1 h3 | exact h2 h3
end
def perm3 : List Nat → List (List Nat)
  | [a, b, c] => [[a, b, c], [a, c, b], [b, a, c], [b, c, a], [c, a, b], [c, b, a]]
  | _ => []
def code3 (L : List (List Str)) (names : List Str) : List Nat → List Nat
  | [i, j, k] => names.map (dg3 (sAt L i) (sAt L j) (sAt L k))
  | _ => []
theorem three {p : List Nat} (h : p.length = 3) : ∃ a b c, p = [a, b, c] := by
  match p, h with
  | [a, b, c], _ => exact ⟨a, b, c, rfl⟩
theorem perm3_mem {p x : List Nat} (h : x ∈ perm3 p) : ∀ i, i ∈ x ↔ i ∈ p := by
  unfold perm3 at h
  split at h
  · simp only [List.mem_cons, List.not_mem_nil, or_false] at h
    rcases h with rfl | rfl | rfl | rfl | rfl | rfl <;> intro i <;> simp <;> omega
  · cases h
structure Q3 (L : List (List Str)) (q : List Nat) : Prop where
  ex : ∃ i j k, q = [i, j, k] ∧ i < L.length ∧ j < L.length ∧ k < L.length ∧ ∃ c, Tri (sAt L i) (sAt L j) (sAt L k) c
theorem row3 {L : List (List Str)} {r : Row} (hS : ∀ s ∈ L, s.Pairwise lO) (hr : r ∈ levF L 1) : ∃ a b c, r.1 = [a, b, c] ∧ a < b ∧ b < c ∧ c < L.length ∧ Tri (sAt L a) (sAt L b) (sAt L c) r.2 := by
  obtain ⟨h1, h2⟩ := (levF_mem 1 r).mp hr
  obtain ⟨a, b, c, e⟩ := three h1
  rw [e] at h2
  obtain ⟨h3, h4⟩ := h2
  rw [List.pairwise_cons, List.pairwise_cons] at h3
  have ab := h3.1 b (by simp)
  have ac := h3.1 c (by simp)
  have bc := h3.2.1 c (by simp)
  refine ⟨a, b, c, e, ab.1, bc.1, h4 c (by simp), ⟨fun x => ?_, fun x => ?_, fun x => ?_⟩⟩
  · rw [← ab.2]; exact meetL_mem
  · rw [← ac.2]; exact meetL_mem
  · rw [← bc.2]; exact meetL_mem
theorem perm3_q {L : List (List Str)} {r : Row} (hS : ∀ s ∈ L, s.Pairwise lO) (hr : r ∈ levF L 1) : ∀ q ∈ perm3 r.1, Q3 L q := fun q hq => by
  obtain ⟨a, b, c, e, h1, h2, h3, t⟩ := row3 hS hr
  rw [e] at hq
  simp only [perm3, List.mem_cons, List.not_mem_nil, or_false] at hq
  have ab := t.ab
  have ac := t.ac
  have bc := t.bc
  have sw : ∀ {A B : List Str}, (∀ x, x ∈ r.2 ↔ x ∈ A ∧ x ∈ B) → ∀ x, x ∈ r.2 ↔ x ∈ B ∧ x ∈ A := fun h x => (h x).trans And.comm
  rcases hq with rfl | rfl | rfl | rfl | rfl | rfl
  · exact ⟨⟨_, _, _, rfl, by omega, by omega, by omega, r.2, ab, ac, bc⟩⟩
  · exact ⟨⟨_, _, _, rfl, by omega, by omega, by omega, r.2, ac, ab, sw bc⟩⟩
  · exact ⟨⟨_, _, _, rfl, by omega, by omega, by omega, r.2, sw ab, bc, ac⟩⟩
  · exact ⟨⟨_, _, _, rfl, by omega, by omega, by omega, r.2, bc, sw ab, sw ac⟩⟩
  · exact ⟨⟨_, _, _, rfl, by omega, by omega, by omega, r.2, sw ac, sw bc, ab⟩⟩
  · exact ⟨⟨_, _, _, rfl, by omega, by omega, by omega, r.2, sw bc, sw ac, sw ab⟩⟩
theorem code3_inj {L : List (List Str)} {names : List Str} (hn : L.Nodup) (hS : ∀ s ∈ L, s.Pairwise lO) (hs : ∀ s ∈ L, ∀ x ∈ s, x ∈ names) {p q : List Nat} (hp : Q3 L p) (hq : Q3 L q) (e : code3 L names p = code3 L names q) : p = q := by
  obtain ⟨i, j, k, rfl, i1, j1, k1, c, t1⟩ := hp
  obtain ⟨i', j', k', rfl, i2, j2, k2, d, t2⟩ := hq
  have e : ∀ x ∈ names, dg3 (sAt L i) (sAt L j) (sAt L k) x = dg3 (sAt L i') (sAt L j') (sAt L k') x := List.map_inj_left.mp e
  have key : ∀ {a b : Nat}, a < L.length → b < L.length → (∀ x ∈ names, x ∈ sAt L a ↔ x ∈ sAt L b) → a = b := fun {a b} ha hb h => by
    refine sAt_inj hn ha hb (lt_unique (hS _ (sAt_mem' ha)) (hS _ (sAt_mem' hb)) fun x => ?_)
    exact ⟨fun z => (h x (hs _ (sAt_mem' ha) x z)).mp z, fun z => (h x (hs _ (sAt_mem' hb) x z)).mpr z⟩
  rw [key i1 i2 fun x hx => by rw [t1.a, t2.a, e x hx], key j1 j2 fun x hx => by rw [t1.b, t2.b, e x hx], key k1 k2 fun x hx => by rw [t1.cc, t2.cc, e x hx]]
theorem asc_eq {a b c a' b' c' : Nat} (h1 : a < b) (h2 : b < c) (h3 : a' < b') (h4 : b' < c') (h : ∀ i, i ∈ [a, b, c] ↔ i ∈ [a', b', c']) : [a, b, c] = [a', b', c'] := by
  have e1 := (h a).mp (by simp)
  have e2 := (h b).mp (by simp)
  have e3 := (h c).mp (by simp)
  simp only [List.mem_cons, List.not_mem_nil, or_false] at e1 e2 e3
  have : a = a' ∧ b = b' ∧ c = c' := by omega
  rw [this.1, this.2.1, this.2.2]
theorem tk_of {names : List Str} (hn : names.Nodup) {f : Str → Nat} {s : List Str} {i b : Nat} (h : ∀ x, x ∈ s ↔ f x = i ∨ f x = 4) (hs : s.length ≤ b) : tk i (names.map f) ≤ b := by
  unfold tk
  rw [List.filter_map, List.length_map]
  refine Nat.le_trans (ZT.len_sub _ s (hn.sublist List.filter_sublist) fun x hx => ?_) hs
  have := (List.mem_filter.mp hx).2
  exact (h x).mpr (by simpa using this)
theorem flat_len {α β : Type} {f : α → List β} {n : Nat} : ∀ xs : List α, (∀ x ∈ xs, (f x).length = n) → (xs.flatMap f).length = n * xs.length
  | [], _ => by simp
  | x :: r, h => by
    rw [List.flatMap_cons, List.length_append, h x (List.mem_cons_self ..), flat_len r fun y hy => h y (List.mem_cons_of_mem _ hy), List.length_cons, Nat.mul_succ]; omega
theorem rows_5 {L : List (List Str)} {names : List Str} (hN : names.Nodup) (hl : names.length ≤ 12) (hn : L.Nodup) (hS : ∀ s ∈ L, s.Pairwise lO) (hs : ∀ s ∈ L, ∀ x ∈ s, x ∈ names) {rows : List Row} (hr : rows.Sublist (levF L 1)) (h5 : ∀ r ∈ rows, ∀ a ∈ r.1, (sAt L a).length ≤ 5) :
    6 * rows.length ≤ 80036225 := by
  have hm : ∀ r ∈ rows, r ∈ levF L 1 := fun r h => hr.subset h
  have pl : (rows.flatMap fun r => perm3 r.1).length = 6 * rows.length := flat_len rows fun r h => by
    obtain ⟨a, b, c, e, _⟩ := row3 hS (hm r h)
    rw [e]; rfl
  have nd : (rows.flatMap fun r => perm3 r.1).Nodup := by
    unfold List.Nodup
    rw [List.pairwise_flatMap]
    refine ⟨fun r h => ?_, ?_⟩
    · obtain ⟨a, b, c, e, h1, h2, _⟩ := row3 hS (hm r h)
      rw [e]
      simp [perm3]
      omega
    · refine List.Pairwise.imp_of_mem (fun {r r'} h1 h2 hlx => ?_) ((levF_lex L 1).1.sublist hr)
      intro x hx y hy exy
      obtain ⟨a, b, c, e, g1, g2, _⟩ := row3 hS (hm r h1)
      obtain ⟨a', b', c', e', g1', g2', _⟩ := row3 hS (hm r' h2)
      subst exy
      have m1 := perm3_mem hx
      have m2 := perm3_mem hy
      rw [e] at m1 hlx
      rw [e'] at m2 hlx
      rw [asc_eq g1 g2 g1' g2' fun i => (m1 i).symm.trans (m2 i)] at hlx
      exact lex_irr _ hlx
  have qs : ∀ q ∈ rows.flatMap fun r => perm3 r.1, Q3 L q := fun q hq => by
    obtain ⟨r, h, hq⟩ := List.mem_flatMap.mp hq
    exact perm3_q hS (hm r h) q hq
  have h2 := ZT.len_sub _ (wordsC names.length 5 5 5) (nodup_inj (f := code3 L names) nd fun p hp q hq e => code3_inj hn hS hs (qs p hp) (qs q hq) e) fun w hw => by
    obtain ⟨q, hq, rfl⟩ := List.mem_map.mp hw
    obtain ⟨i, j, k, e, i1, j1, k1, c, t⟩ := qs q hq
    obtain ⟨r, h, hq⟩ := List.mem_flatMap.mp hq
    have mm := perm3_mem hq
    subst e
    have l5 : ∀ a ∈ [i, j, k], (sAt L a).length ≤ 5 := fun a ha => h5 r h a ((mm a).mp ha)
    have := wordsC_mem (names.map (dg3 (sAt L i) (sAt L j) (sAt L k))) 5 5 5 (fun d hd => by obtain ⟨x, _, rfl⟩ := List.mem_map.mp hd; exact dg3_lt) (tk_of hN (fun x => t.a) (l5 i (by simp))) (tk_of hN (fun x => t.b) (l5 j (by simp))) (tk_of hN (fun x => t.cc) (l5 k (by simp)))
    rw [List.length_map] at this
    exact this
  rw [List.length_map, pl] at h2
  exact Nat.le_trans h2 (words_5 hl)
/-! ### those of a set of six names -/
def wordsM : List Nat → List (List Nat)
  | [] => [[]]
  | b :: bs => (wordsM bs).flatMap fun w => (List.range b).map fun d => d :: w
theorem wordsM_len : ∀ bs : List Nat, (wordsM bs).length = bs.foldr (· * ·) 1
  | [] => rfl
  | b :: bs => by
    unfold wordsM
    rw [flat_len (n := b) _ fun w _ => by simp, wordsM_len bs]; rfl
def dg2 (S A B : List Str) (x : Str) : Nat := if x ∈ S then (if x ∈ A then 1 else 0) else if x ∈ A then 1 else if x ∈ B then 2 else 0
theorem wordsM_mem (S A B : List Str) : ∀ names : List Str, names.map (dg2 S A B) ∈ wordsM (names.map fun x => if x ∈ S then 2 else 3)
  | [] => by simp [wordsM]
  | x :: r => by
    rw [List.map_cons, List.map_cons]
    unfold wordsM
    refine List.mem_flatMap.mpr ⟨_, wordsM_mem S A B r, List.mem_map.mpr ⟨_, List.mem_range.mpr ?_, rfl⟩⟩
    unfold dg2
    repeat (first | split | decide)
theorem prod_23 (S : List Str) : ∀ names : List Str, (names.map fun x => if x ∈ S then 2 else 3).foldr (· * ·) 1 = 2 ^ (names.filter fun x => decide (x ∈ S)).length * 3 ^ (names.filter fun x => !decide (x ∈ S)).length
  | [] => rfl
  | x :: r => by
    rw [List.map_cons, List.foldr_cons, prod_23 S r]
    by_cases h : x ∈ S
    · rw [if_pos h, List.filter_cons_of_pos (by simpa using h), List.filter_cons_of_neg (by simpa using h), List.length_cons, Nat.pow_succ, ← Nat.mul_assoc]
      congr 1
      exact Nat.mul_comm ..
    · rw [if_neg h, List.filter_cons_of_neg (by simpa using h), List.filter_cons_of_pos (by simpa using h), List.length_cons, Nat.pow_succ, Nat.mul_left_comm]
      congr 1
      exact Nat.mul_comm ..
theorem filter_two {α : Type} (p : α → Bool) : ∀ xs : List α, (xs.filter p).length + (xs.filter fun x => !p x).length = xs.length
  | [] => rfl
  | x :: r => by
    have := filter_two p r
    cases h : p x with
    | true => rw [List.filter_cons_of_pos h, List.filter_cons_of_neg (by simp [h]), List.length_cons, List.length_cons]; omega
    | false => rw [List.filter_cons_of_neg (by simp [h]), List.filter_cons_of_pos (by simp [h]), List.length_cons, List.length_cons]; omega
theorem prod_6 {S names : List Str} (hN : names.Nodup) (hl : names.length ≤ 12) (hs : S.Nodup) (h6 : S.length = 6) (hsub : ∀ x ∈ S, x ∈ names) : (names.map fun x => if x ∈ S then 2 else 3).foldr (· * ·) 1 ≤ 46656 := by
  rw [prod_23]
  have h1 : (names.filter fun x => decide (x ∈ S)).length = 6 := by
    refine Nat.le_antisymm ?_ ?_
    · rw [← h6]; exact ZT.len_sub _ _ (hN.sublist List.filter_sublist) fun x hx => by simpa using (List.mem_filter.mp hx).2
    · rw [← h6]; exact ZT.len_sub _ _ hs fun x hx => List.mem_filter.mpr ⟨hsub x hx, by simpa using hx⟩
  have h2 := filter_two (fun x => decide (x ∈ S)) names
  rw [h1] at h2 ⊢
  exact Nat.le_trans (Nat.mul_le_mul_left _ (Nat.pow_le_pow_right (by decide) (show _ ≤ 6 by omega))) (by decide)
def rest3 (a : Nat) (p : List Nat) : List Nat := p.filter fun i => !decide (i = a)
def codeR (L : List (List Str)) (names : List Str) (a : Nat) : List Nat → List Nat
  | [i, j] => names.map (dg2 (sAt L a) (sAt L i) (sAt L j))
  | _ => []
/-- a, i < j of one flower -/
theorem rest_row {L : List (List Str)} {r : Row} {a : Nat} (hS : ∀ s ∈ L, s.Pairwise lO) (hr : r ∈ levF L 1) (ha : a ∈ r.1) : ∃ i j, rest3 a r.1 = [i, j] ∧ i < j ∧ i < L.length ∧ j < L.length ∧ a < L.length ∧ (∀ x, x ∈ r.1 ↔ x ∈ [a, i, j]) ∧ Tri (sAt L a) (sAt L i) (sAt L j) r.2 := by
  obtain ⟨u, v, w, e, h1, h2, h3, t⟩ := row3 hS hr
  have ab := t.ab
  have ac := t.ac
  have bc := t.bc
  have sw : ∀ {A B : List Str}, (∀ x, x ∈ r.2 ↔ x ∈ A ∧ x ∈ B) → ∀ x, x ∈ r.2 ↔ x ∈ B ∧ x ∈ A := fun h x => (h x).trans And.comm
  rw [e] at ha ⊢
  simp only [List.mem_cons, List.not_mem_nil, or_false] at ha
  rcases ha with rfl | rfl | rfl
  · refine ⟨v, w, ?_, h2, by omega, h3, by omega, fun x => Iff.rfl, ab, ac, bc⟩
    unfold rest3
    rw [List.filter_cons_of_neg (by simp), List.filter_cons_of_pos (by simp; omega), List.filter_cons_of_pos (by simp; omega)]; rfl
  · refine ⟨u, w, ?_, by omega, by omega, h3, by omega, fun x => by simp; omega, sw ab, bc, ac⟩
    unfold rest3
    rw [List.filter_cons_of_pos (by simp; omega), List.filter_cons_of_neg (by simp), List.filter_cons_of_pos (by simp; omega)]; rfl
  · refine ⟨u, v, ?_, by omega, by omega, by omega, h3, fun x => by simp; omega, sw ac, sw bc, ab⟩
    unfold rest3
    rw [List.filter_cons_of_pos (by simp; omega), List.filter_cons_of_pos (by simp; omega), List.filter_cons_of_neg (by simp)]; rfl
theorem Tri.inA {S A B c : List Str} (h : Tri S A B c) {x : Str} : x ∈ A ↔ dg2 S A B x = 1 := by
  unfold dg2
  by_cases hA : x ∈ S <;> by_cases hB : x ∈ A <;> by_cases hC : x ∈ B <;> simp [hA, hB, hC]
theorem Tri.inB {S A B c : List Str} (h : Tri S A B c) {x : Str} : x ∈ B ↔ (x ∈ S ∧ dg2 S A B x = 1) ∨ (x ∉ S ∧ dg2 S A B x = 2) := by
  have h1 := h.ab x
  have h2 := h.ac x
  have h3 := h.bc x
  unfold dg2
  by_cases hA : x ∈ S <;> by_cases hB : x ∈ A <;> by_cases hC : x ∈ B <;> simp [hA, hB, hC] at h1 h2 h3 ⊢
  all_goals first | exact h2 h1 | exact h3 h1 | exact h1 h2 | exact h3 h2 | exact h1 h3 | exact h2 h3
theorem rows_6 {L : List (List Str)} {names : List Str} (hN : names.Nodup) (hl : names.length ≤ 12) (hn : L.Nodup) (hS : ∀ s ∈ L, s.Pairwise lO) (hs : ∀ s ∈ L, ∀ x ∈ s, x ∈ names) {a : Nat} (ha : a < L.length) (h6 : (sAt L a).length = 6) :
    ((levF L 1).filter fun r => decide (a ∈ r.1)).length ≤ 46656 := by
  have hm : ∀ r ∈ (levF L 1).filter fun r => decide (a ∈ r.1), r ∈ levF L 1 ∧ a ∈ r.1 := fun r h => ⟨(List.mem_filter.mp h).1, by simpa using (List.mem_filter.mp h).2⟩
  have nd0 : (levF L 1).Nodup := (levF_lex L 1).1.imp fun {a b} h e => by subst e; exact lex_irr _ h
  have h2 := ZT.len_sub _ (wordsM (names.map fun x => if x ∈ sAt L a then 2 else 3)) (nodup_inj (f := fun r : Row => codeR L names a (rest3 a r.1)) (nd0.sublist List.filter_sublist) fun r hr r' hr' e => by
      obtain ⟨h1, h2⟩ := hm r hr
      obtain ⟨h1', h2'⟩ := hm r' hr'
      obtain ⟨i, j, e1, l1, l2, l3, _, m1, t1⟩ := rest_row hS h1 h2
      obtain ⟨i', j', e1', l1', l2', l3', _, m1', t1'⟩ := rest_row hS h1' h2'
      simp only [e1, e1'] at e
      have e : ∀ x ∈ names, dg2 (sAt L a) (sAt L i) (sAt L j) x = dg2 (sAt L a) (sAt L i') (sAt L j') x := List.map_inj_left.mp e
      have key : ∀ {a b : Nat}, a < L.length → b < L.length → (∀ x ∈ names, x ∈ sAt L a ↔ x ∈ sAt L b) → a = b := fun {a b} ha hb h => by
        refine sAt_inj hn ha hb (lt_unique (hS _ (sAt_mem' ha)) (hS _ (sAt_mem' hb)) fun x => ?_)
        exact ⟨fun z => (h x (hs _ (sAt_mem' ha) x z)).mp z, fun z => (h x (hs _ (sAt_mem' hb) x z)).mpr z⟩
      have ei := key l2 l2' fun x hx => by rw [t1.inA, t1'.inA, e x hx]
      have ej := key l3 l3' fun x hx => by rw [t1.inB, t1'.inB, e x hx]
      subst ei ej
      obtain ⟨u, v, w, g, g1, g2, _, _⟩ := row3 hS h1
      obtain ⟨u', v', w', g', g1', g2', _, _⟩ := row3 hS h1'
      have ep : r.1 = r'.1 := by
        rw [g, g']
        refine asc_eq g1 g2 g1' g2' fun x => ?_
        rw [← g, ← g', m1, m1']
      have q1 := ((levF_mem 1 r).mp h1).2
      have q2 := ((levF_mem 1 r').mp h1').2
      rw [← ep] at q2
      exact Prod.ext ep (q1.core q2 (by rw [g]; simp))) fun w hw => by
    obtain ⟨r, hr, rfl⟩ := List.mem_map.mp hw
    obtain ⟨h1, h2⟩ := hm r hr
    obtain ⟨i, j, e1, _⟩ := rest_row hS h1 h2
    simp only [e1]
    exact wordsM_mem (sAt L a) (sAt L i) (sAt L j) names
  rw [List.length_map, wordsM_len] at h2
  exact Nat.le_trans h2 (prod_6 hN hl (lt_nodup (hS _ (sAt_mem' ha))) h6 (hs _ (sAt_mem' ha)))
theorem any_sum {α : Type} {n : Nat} (P : Nat → α → Bool) (xs : List α) : ∀ as : List Nat, (∀ a ∈ as, (xs.filter (P a)).length ≤ n) → (xs.filter fun x => as.any fun a => P a x).length ≤ as.length * n
  | [], _ => by simp
  | a :: as, h => by
    have h1 := any_sum P xs as fun b hb => h b (List.mem_cons_of_mem _ hb)
    have h2 := h a (List.mem_cons_self ..)
    have : ∀ xs : List α, (xs.filter fun x => (a :: as).any fun a => P a x).length ≤ (xs.filter (P a)).length + (xs.filter fun x => as.any fun a => P a x).length := fun xs => by
      induction xs with
      | nil => simp
      | cons x r ih =>
        simp only [List.any_cons] at ih ⊢
        cases h1 : P a x <;> cases h2 : as.any (fun a => P a x) <;> simp only [List.filter_cons, h1, h2, Bool.or_true, Bool.or_false, Bool.true_or, Bool.false_or, if_true, List.length_cons, Bool.false_eq_true, if_false] <;> omega
    have := this xs
    rw [List.length_cons, Nat.succ_mul]
    omega
/-- flowers of three over twelve names, at most fourteen sets of which have six names -/
theorem rows_3 {L : List (List Str)} {names : List Str} (hN : names.Nodup) (hl : names.length ≤ 12) (hn : L.Nodup) (hS : ∀ s ∈ L, s.Pairwise lO) (hs : ∀ s ∈ L, ∀ x ∈ s, x ∈ names) (h6 : ∀ s ∈ L, s.length ≤ 6) (h14 : (L.filter fun s => decide (s.length = 6)).length ≤ 14) : (levF L 1).length ≤ 14000000 := by
  have e0 := filter_two (fun r : Row => ((List.range L.length).filter fun k => decide ((sAt L k).length = 6)).any fun a => decide (a ∈ r.1)) (levF L 1)
  have hp : ((List.range L.length).filter fun k => decide ((sAt L k).length = 6)).length ≤ 14 := by
    have : ((List.range L.length).filter fun k => decide ((sAt L k).length = 6)).length = (L.filter fun s => decide (s.length = 6)).length := by
      conv => rhs; rw [← range_sAt L, List.filter_map]
      rw [List.length_map]; rfl
    omega
  have h1 := any_sum (n := 46656) (fun a (r : Row) => decide (a ∈ r.1)) (levF L 1) ((List.range L.length).filter fun k => decide ((sAt L k).length = 6)) fun a ha => by
    obtain ⟨ha1, ha2⟩ := List.mem_filter.mp ha
    exact rows_6 hN hl hn hS hs (List.mem_range.mp ha1) (by simpa using ha2)
  have h2 := rows_5 hN hl hn hS hs (rows := (levF L 1).filter fun r => !((List.range L.length).filter fun k => decide ((sAt L k).length = 6)).any fun a => decide (a ∈ r.1)) List.filter_sublist fun r hr a ha => by
    obtain ⟨hr1, hr2⟩ := List.mem_filter.mp hr
    have hal := ((levF_mem 1 r).mp hr1).2.2 a ha
    have := h6 _ (sAt_mem' hal)
    rcases Nat.lt_or_ge (sAt L a).length 6 with c | c
    · omega
    · exfalso
      have hr2 : (((List.range L.length).filter fun k => decide ((sAt L k).length = 6)).any fun a => decide (a ∈ r.1)) = false := by simpa using hr2
      have := List.any_eq_false.mp hr2 a (List.mem_filter.mpr ⟨List.mem_range.mpr hal, by simp; omega⟩)
      simp at this
      exact this ha
  have h3 : ((List.range L.length).filter fun k => decide ((sAt L k).length = 6)).length * 46656 ≤ 14 * 46656 := Nat.mul_le_mul_right _ hp
  omega
end Law
namespace Law
open PySem Z
/-! ### sets of few of few names, counted -/
def subsB : List Str → Nat → List (List Str)
  | [], _ => [[]]
  | x :: r, b => subsB r b ++ (if b = 0 then [] else (subsB r (b - 1)).map (x :: ·))
def cB : Nat → Nat → Nat
  | 0, _ => 1
  | n + 1, b => cB n b + (if b = 0 then 0 else cB n (b - 1))
theorem subsB_len : ∀ (ns : List Str) (b : Nat), (subsB ns b).length = cB ns.length b
  | [], _ => rfl
  | x :: r, b => by
    unfold subsB
    rw [List.length_append, subsB_len r b, List.length_cons]
    conv => rhs; unfold cB
    split
    · simp
    · rw [List.length_map, subsB_len r (b - 1)]
theorem cB_up (b : Nat) : ∀ {n m : Nat}, n ≤ m → cB n b ≤ cB m b := by
  intro n m h
  induction h with
  | refl => exact Nat.le_refl _
  | step _ ih => exact Nat.le_trans ih (by conv => rhs; unfold cB
                                           omega)
theorem subsB_mem : ∀ {ns s : List Str} {b : Nat}, s.Sublist ns → s.length ≤ b → s ∈ subsB ns b
  | _, _, _, .slnil, _ => by simp [subsB]
  | _, _, _, .cons x h, hl => by unfold subsB; exact List.mem_append_left _ (subsB_mem h hl)
  | _, _, b, .cons_cons x h, hl => by
    rw [List.length_cons] at hl
    unfold subsB
    refine List.mem_append_right _ ?_
    rw [if_neg (by omega)]
    exact List.mem_map_of_mem (subsB_mem h (by omega))
theorem subB_of {names s : List Str} {b : Nat} (hs : s.Pairwise lO) (h : ∀ x ∈ s, x ∈ names) (hl : s.length ≤ b) : s ∈ subsB (sset names) b := by
  refine subsB_mem ?_ hl
  have e : (sset names).filter (fun x => decide (x ∈ s)) = s := lt_unique ((sset_lt names).sublist List.filter_sublist) hs fun x => by
    rw [List.mem_filter, sset_mem]
    exact ⟨fun z => by simpa using z.2, fun z => ⟨h x z, by simpa using z⟩⟩
  rw [← e]
  exact List.filter_sublist
theorem subsB_6 {names : List Str} (h : names.length ≤ 12) : (subsB (sset names) 6).length ≤ 2510 := by
  rw [subsB_len]
  exact Nat.le_trans (cB_up 6 (Nat.le_trans (sset_len names) h)) (by decide +kernel)
structure LimH (L : List (List Str)) (m : Nat) : Prop where
  mm : 2 ≤ m ∧ m ≤ 12
  len : L.length ≤ 2600
  six : ∀ s ∈ L, s.length ≤ 100
  rows : ∀ k, k + 2 ≤ m → (levF L k).length ≤ 14000000
structure FewH (names : List Str) (L : List (List Str)) : Prop where
  nm : names.length ≤ 12
  lt : L.Pairwise ltT
  srt : ∀ s ∈ L, s.Pairwise lO
  sub : ∀ s ∈ L, ∀ x ∈ s, x ∈ names
  six : ∀ s ∈ L, s.length ≤ 6
  big : (L.filter fun s => decide (s.length = 6)).length ≤ 14
theorem pairs_len (L : List (List Str)) : (levF L 0).length ≤ L.length * L.length := by
  unfold levF begunL
  have key : ∀ as : List Nat, (as.flatMap (twosL L)).length ≤ L.length * as.length := by
    intro as
    induction as with
    | nil => simp
    | cons a as ih =>
      rw [List.flatMap_cons, List.length_append, List.length_cons, Nat.mul_succ]
      have : (twosL L a).length ≤ L.length := by unfold twosL; simp
      omega
  have := key (List.range L.length)
  rwa [List.length_range] at this
section
variable {names : List Str} {L : List (List Str)}
theorem FewH.nd (h : FewH names L) : L.Nodup := ltT_nodup h.lt
theorem FewH.len (h : FewH names L) : L.length ≤ 2510 := Nat.le_trans (ZT.len_sub L _ h.nd fun s hs => subB_of (h.srt s hs) (h.sub s hs) (h.six s hs)) (subsB_6 h.nm)
theorem FewH.lim3 (h : FewH names L) {m : Nat} (hm : 2 ≤ m ∧ m ≤ 3) : LimH L m := by
  have hl := h.len
  refine ⟨by omega, by omega, fun s hs => Nat.le_trans (h.six s hs) (by decide), fun k hk => ?_⟩
  match k with
  | 0 => exact Nat.le_trans (pairs_len L) (Nat.le_trans (Nat.mul_le_mul hl hl) (by decide))
  | 1 => exact rows_3 (names := sset names) (lt_nodup (sset_lt names)) (Nat.le_trans (sset_len names) h.nm) h.nd h.srt (fun s hs x hx => sset_mem.mpr (h.sub s hs x hx)) h.six h.big
  | k + 2 => omega
theorem limH14 (hl : L.length ≤ 14) (h6 : ∀ s ∈ L, s.length ≤ 6) {m : Nat} (hm : 2 ≤ m ∧ m ≤ 12) : LimH L m :=
  ⟨hm, by omega, fun s hs => Nat.le_trans (h6 s hs) (by decide), fun k _ => Nat.le_trans (levF_len L k) (Nat.le_trans (Nat.pow_le_pow_right (by decide) hl) (by decide))⟩
/-- the collections of one run: few sets where many are asked for -/
structure Run (names : List Str) (m : Nat) (L : List (List Str)) : Prop where
  few : FewH names L
  mm : 2 ≤ m ∧ m ≤ 6
  l14 : 4 ≤ m → L.length ≤ 14
theorem Run.lim {m : Nat} (h : Run names m L) : LimH L m := by
  have := h.mm
  rcases Nat.lt_or_ge m 4 with c | c
  · exact h.few.lim3 (by omega)
  · exact limH14 (h.l14 c) h.few.six (by omega)
end
end Law
namespace Law
open PySem Z
/-! ### the law's own flowers -/
abbrev row2D (r : Row2) : PyData := .tuple [natsD r.1, .list (r.2.map .str)]
theorem r_law_meet {Q : Rv → Prop} {a b : List Str} (ha : a.length ≤ 100000) (q : Q (.im (tupS (meetL a b)))) : (m_law_meet [.imm (tupS a), .imm (tupS b)]).run Q := by
  unfold m_law_meet
  simp [ms_law_meet, List.replicate_succ]
  refine ⟨by omega, ?_⟩
  refine lc_typed PyData.str (fun x => decide (x ∈ b)) PyData.str a (fun x hx => ?_) q
  simp
  exact fIn_Dt (α := Str) (by decide) false x b (by simp)
theorem sAt_atF {L : List (List Str)} {k : Nat} (h : k < L.length) : L2.atI (L.map tupS) (k : Int) = some (tupS (sAt L k)) := by
  refine at_map ?_
  unfold sAt
  rw [List.getElem?_eq_getElem h, List.getD_eq_getElem?_getD, List.getElem?_eq_getElem h]; rfl
abbrev fEnv (L : List (List Str)) (s1 s2 s3 s4 s5 : Sl) (core : List Str) (s7 s8 : Sl) (G : List Row2) (s10 s11 s12 s13 s14 : Sl) : Z.Env :=
  [.imm (tupSS L), s1, s2, s3, s4, s5, .imm (tupS core), s7, s8, .lst (G.map row2D), s10, s11, s12, s13, s14, .any]
theorem flow1 {L : List (List Str)} (h6 : ∀ s ∈ L, s.length ≤ 100) {core : List Str} (hcl : core.length ≤ 100) {r : Row2} (hrl : r.1.length ≤ 100) (htl : r.2.length ≤ 10000) {s1 s2 s3 s4 s5 s7 s8 : Sl} {Q : Fl × Z.Env → Prop} : ∀ (ms : List Nat) (G : List Row2), (∀ m ∈ ms, m < L.length) → G.length + ms.length ≤ 16000000 →
    Q (.nx, fEnv L s1 s2 s3 s4 s5 core s7 s8 (G ++ (ms.filter (okM L core r.2)).map (kid2 L core r)) (.imm (natsD r.1)) (.imm (.list (r.2.map .str))) .any .any .any) →
    (loopM [12, 13, 14] (nName 12) lb_law_flowers_1 (ms.map fun k : Nat => PyData.int k) (fEnv L s1 s2 s3 s4 s5 core s7 s8 G (.imm (natsD r.1)) (.imm (.list (r.2.map .str))) .any .any .any)).run Q
  | [], G, _, _, q => by simpa using q
  | m :: ms, G, hm, hl, q => by
    have hm0 := hm m (List.mem_cons_self ..)
    have h6m := h6 _ (sAt_memW hm0)
    rw [List.length_cons] at hl
    rw [List.map_cons, loop_cons]
    simp [sAt_atF hm0]
    refine ⟨by omega, ?_⟩
    refine lc_typed PyData.str (fun x => !decide (x ∈ core)) PyData.str (sAt L m) (fun x hx => ?_) ?_
    · simp
      exact fIn_Dt (α := Str) (by decide) true x core (by simp)
    · have hleft : (leftL L core m).length ≤ 100 := Nat.le_trans (List.length_filter_le ..) h6m
      have go0 : (ms.filter (okM L core r.2)).map (kid2 L core r) = (ms.filter (okM L core r.2)).map (kid2 L core r) := rfl
      have skip : okM L core r.2 m = false → (loopM [12, 13, 14] (nName 12) lb_law_flowers_1 (ms.map fun k : Nat => PyData.int k) (fEnv L s1 s2 s3 s4 s5 core s7 s8 G (.imm (natsD r.1)) (.imm (.list (r.2.map .str))) .any .any .any)).run Q := fun c => by
        rw [List.filter_cons_of_neg (by rw [c]; decide)] at q
        exact flow1 h6 hcl hrl htl ms G (fun x hx => hm x (List.mem_cons_of_mem _ hx)) (by omega) q
      have take : okM L core r.2 m = true → (loopM [12, 13, 14] (nName 12) lb_law_flowers_1 (ms.map fun k : Nat => PyData.int k) (fEnv L s1 s2 s3 s4 s5 core s7 s8 (G ++ [kid2 L core r m]) (.imm (natsD r.1)) (.imm (.list (r.2.map .str))) .any .any .any)).run Q := fun c => by
        rw [List.filter_cons_of_pos c, List.map_cons] at q
        exact flow1 h6 hcl hrl htl ms (G ++ [kid2 L core r m]) (fun x hx => hm x (List.mem_cons_of_mem _ hx)) (by simp; omega) (by simpa using q)
      change (if ((List.map PyData.str (leftL L core m)).length : Int) + (core.length : Int) = ((sAt L m).length : Int) then _ else _)
      have eL : (List.filter (fun x => !decide (x ∈ core)) (sAt L m)) = leftL L core m := rfl
      rw [eL]
      rw [List.length_map]
      split
      · rename_i h1
        refine ⟨by omega, ?_⟩
        refine lc_typed PyData.str (fun x => decide (x ∈ r.2)) PyData.str (leftL L core m) (fun x hx => ?_) ?_
        · simp
          exact fIn_Dl (α := Str) (by decide) false x r.2 (by simp)
        · refine fEq_Ls _ [] ?_
          by_cases h2 : ((leftL L core m).filter fun x => decide (x ∈ r.2)) = []
          · have ok : okM L core r.2 m = true := by
              unfold okM
              rw [Bool.and_eq_true, decide_eq_true_eq, List.all_eq_true]
              refine ⟨by omega, fun x hx => ?_⟩
              have := List.filter_eq_nil_iff.mp h2 x hx
              simpa using this
            simp [h2]
            refine ⟨by omega, by omega, by omega, ?_⟩
            have := take ok
            rw [fEnv, List.map_append] at this
            simpa [kid2, row2D, natsD] using this
          · have ok : okM L core r.2 m = false := by
              cases c : okM L core r.2 m with
              | false => rfl
              | true =>
                unfold okM at c
                rw [Bool.and_eq_true, List.all_eq_true] at c
                exact (h2 (List.filter_eq_nil_iff.mpr fun x hx => by have := c.2 x hx; simpa using this)).elim
            simp [h2]
            exact skip ok
      · rename_i h1
        have ok : okM L core r.2 m = false := by
          cases c : okM L core r.2 m with
          | false => rfl
          | true =>
            unfold okM at c
            rw [Bool.and_eq_true, decide_eq_true_eq] at c
            omega
        exact skip ok
theorem last_at {p : List Nat} {n : Nat} (h1 : p ≠ []) (h3 : ∀ k ∈ p, k < n) : (p.map fun k : Nat => PyData.int k).getLast? = some (.int (lastN p)) ∧ lastN p < n := by
  cases h : p.getLast? with
  | none => exact absurd (List.getLast?_eq_none_iff.mp h) h1
  | some x =>
    refine ⟨?_, ?_⟩
    · rw [List.getLast?_map]
      unfold lastN
      rw [h]; rfl
    · unfold lastN
      rw [h]
      exact h3 x (List.mem_of_getLast? h)
structure RB (L : List (List Str)) (j : Nat) (r : Row2) : Prop where
  ne : r.1 ≠ []
  lt : ∀ k ∈ r.1, k < L.length
  l1 : r.1.length ≤ j
  l2 : r.2.length ≤ 200 * j
theorem flow2 {L : List (List Str)} (hL : L.length ≤ 2600) (h6 : ∀ s ∈ L, s.length ≤ 100) {core : List Str} (hcl : core.length ≤ 100) {j : Nat} (hj : j ≤ 20) {s1 s2 s3 s4 s5 s7 s8 : Sl} {Q : Fl × Z.Env → Prop} : ∀ (rows : List Row2) (G : List Row2) (s10 : Sl), (∀ r ∈ rows, RB L j r) → G.length + (grown2 L core rows).length ≤ 15000000 →
    (∀ s10, Q (.nx, fEnv L s1 s2 s3 s4 s5 core s7 s8 (G ++ grown2 L core rows) s10 .any .any .any .any)) →
    (loopM [11, 12, 13, 14] (nTup 2 (nCons (nName 10) (nCons (nName 11) nNil))) lb_law_flowers_2 (rows.map row2D) (fEnv L s1 s2 s3 s4 s5 core s7 s8 G s10 .any .any .any .any)).run Q
  | [], G, s10, _, _, q => by simpa [grown2] using q s10
  | r :: rows, G, s10, hr, hl, q => by
    have hr0 := hr r (List.mem_cons_self ..)
    have eg : grown2 L core (r :: rows) = kids2 L core r ++ grown2 L core rows := by unfold grown2; rw [List.flatMap_cons]
    rw [eg, List.length_append] at hl
    rw [List.map_cons, loop_cons]
    obtain ⟨e1, hln⟩ := last_at hr0.ne hr0.lt
    have h1 := hr0.l1
    have h2 := hr0.l2
    rw [List.getLast?_map] at e1
    simp [atI_last]
    rw [e1]
    simp
    refine ⟨by omega, ?_⟩
    have e2 : ((L.length : Int) - ((lastN r.1 : Int) + 1)).toNat = L.length - (lastN r.1 + 1) := by omega
    rw [e2, show ((lastN r.1 : Int) + 1) = ((lastN r.1 + 1 : Nat) : Int) by omega, rg_nat2]
    refine flow1 h6 hcl (r := r) (by omega) (by omega) _ G (fun m hm => by have := List.mem_range'_1.mp hm; omega) (by simp; omega) ?_
    simp
    have := flow2 hL h6 hcl hj (s1 := s1) (s2 := s2) (s3 := s3) (s4 := s4) (s5 := s5) (s7 := s7) (s8 := s8) (Q := Q) rows (G ++ kids2 L core r) (.imm (natsD r.1)) (fun x hx => hr x (List.mem_cons_of_mem _ hx)) (by simp; omega) (fun s10 => by rw [List.append_assoc, ← eg]; exact q s10)
    rw [fEnv, List.map_append] at this
    unfold kids2 at this
    simpa using this
theorem RB.grow {L : List (List Str)} (h6 : ∀ s ∈ L, s.length ≤ 100) {core : List Str} {j : Nat} {rows : List Row2} (h : ∀ r ∈ rows, RB L j r) : ∀ q ∈ grown2 L core rows, RB L (j + 1) q := fun q hq => by
  unfold grown2 at hq
  obtain ⟨r, hr, hq⟩ := List.mem_flatMap.mp hq
  unfold kids2 at hq
  obtain ⟨m, hm, rfl⟩ := List.mem_map.mp hq
  have := List.mem_range'_1.mp (List.mem_filter.mp hm).1
  have hmL : m < L.length := by omega
  have hb := h r hr
  have hleft : (leftL L core m).length ≤ 100 := Nat.le_trans (List.length_filter_le ..) (h6 _ (sAt_memW hmL))
  have l1 := hb.l1
  have l2 := hb.l2
  refine ⟨by simp [kid2], fun k hk => ?_, by simp [kid2]; omega, by simp [kid2]; omega⟩
  rcases List.mem_append.mp hk with hk | hk
  · exact hb.lt k hk
  · rw [List.mem_singleton.mp hk]; exact hmL
theorem len_flat {α β : Type} {f : α → List β} {x : α} : ∀ {xs : List α}, x ∈ xs → (f x).length ≤ (xs.flatMap f).length
  | y :: ys, h => by
    rw [List.flatMap_cons, List.length_append]
    rcases List.mem_cons.mp h with rfl | h
    · omega
    · have := len_flat (f := f) h
      omega
theorem over_le {L : List (List Str)} {k a b : Nat} (h1 : a < b) (h2 : b < L.length) : (overTwo L k a b).length ≤ (levF L k).length := by
  rw [levF_over]
  refine Nat.le_trans ?_ (len_flat (f := fun a => (List.range' (a + 1) (L.length - (a + 1))).flatMap fun b => overTwo L k a b) (x := a) (List.mem_range.mpr (by omega)))
  exact len_flat (f := fun b => overTwo L k a b) (x := b) (List.mem_range'_1.mpr (by omega))
theorem flow3 {L : List (List Str)} (hL : L.length ≤ 2600) (hS : ∀ s ∈ L, s.Pairwise lO) (h6 : ∀ s ∈ L, s.length ≤ 100) {core : List Str} (hc : core.Pairwise lO) (hcl : core.length ≤ 100) {r0 : Row} {s1 s2 s3 s4 s5 : Sl} {n0 : Nat} (hn0 : n0 ≤ 10) (hlen : ∀ k, k ≤ n0 → (gR L [r0] k).length ≤ 14000000) {Q : Fl × Z.Env → Prop} (q : ∀ (rows : List Row2) (s10 : Sl), rows.map (fun q => (q.1, core)) = gR L [r0] n0 → Q (.nx, [.imm (tupSS L), s1, s2, s3, s4, s5, .imm (tupS core), .imm (.list (rows.map row2D)), .any, .any, s10, .any, .any, .any, .any, .any])) : ∀ (ds : List PyData) (t : Nat) (rows : List Row2) (s10 : Sl), t + ds.length = n0 → (∀ r ∈ rows, RInv L core r) → (∀ r ∈ rows, RB L (t + 2) r) → rows.map (fun q => (q.1, core)) = gR L [r0] t →
    (loopM [8, 9, 11, 12, 13, 14] (nName 8) lb_law_flowers_3 ds [.imm (tupSS L), s1, s2, s3, s4, s5, .imm (tupS core), .imm (.list (rows.map row2D)), .any, .any, s10, .any, .any, .any, .any, .any]).run Q
  | [], t, rows, s10, ht, _, _, he => by
    have : t = n0 := by simpa using ht
    subst this
    simpa using q rows s10 he
  | d :: ds, t, rows, s10, ht, h1, h2, he => by
    rw [List.length_cons] at ht
    rw [loop_cons]
    simp
    have hg := grown2_row hS hc rows h1
    have hgl : (grown2 L core rows).length ≤ 14000000 := by
      have e := congrArg List.length hg.1
      rw [List.length_map] at e
      rw [e, he]
      exact hlen (t + 1) (by omega)
    have hrl : rows.length ≤ 14000000 := by
      have e := congrArg List.length he
      rw [List.length_map] at e
      rw [e]
      exact hlen t (by omega)
    refine flow2 (by omega) h6 hcl (j := t + 2) (by omega) (s8 := .imm d) rows [] s10 h2 (by simp; omega) fun s10' => ?_
    simp
    have := flow3 hL hS h6 hc hcl hn0 hlen q ds (t + 1) (grown2 L core rows) s10' (by omega) hg.2 (RB.grow h6 h2) (by rw [hg.1, he]; rfl)
    simpa using this
theorem flow4 {L : List (List Str)} {many : Nat} (hL : LimH L many) (hS : ∀ s ∈ L, s.Pairwise lO) {f : Nat} (hf : f < L.length) {Q : Fl × Z.Env → Prop} : ∀ (bs : List Nat) (G : List Row) (s10 : Sl), (∀ b ∈ bs, f < b ∧ b < L.length) → G.length + (bs.flatMap fun b => overTwo L (many - 2) f b).length ≤ 14000000 →
    (∀ s10, Q (.nx, [.imm (tupSS L), .imm (.int many), .lst ((G ++ bs.flatMap fun b => overTwo L (many - 2) f b).map rowD), .imm (.int f), .imm (tupS (sAt L f)), .any, .any, .any, .any, .any, s10, .any, .any, .any, .any, .any])) →
    (loopM [5, 6, 7, 8, 9, 11, 12, 13, 14] (nName 5) lb_law_flowers_4 (bs.map fun k : Nat => PyData.int k) [.imm (tupSS L), .imm (.int many), .lst (G.map rowD), .imm (.int f), .imm (tupS (sAt L f)), .any, .any, .any, .any, .any, s10, .any, .any, .any, .any, .any]).run Q
  | [], G, s10, _, _, q => by simpa using q s10
  | b :: bs, G, s10, hb, hl, q => by
    obtain ⟨hfb, hb0⟩ := hb b (List.mem_cons_self ..)
    have h6 := hL.six
    have hm := hL.mm
    have hlen := hL.len
    have hSf := hS _ (sAt_memW hf)
    have hSb := hS _ (sAt_memW hb0)
    have h6f := h6 _ (sAt_memW hf)
    have h6b := h6 _ (sAt_memW hb0)
    have hcore : (meetL (sAt L f) (sAt L b)).Pairwise lO := meetL_pw hSf
    have hcl : (meetL (sAt L f) (sAt L b)).length ≤ 100 := Nat.le_trans (List.length_filter_le ..) h6f
    rw [List.flatMap_cons, List.length_append] at hl
    rw [List.map_cons, loop_cons]
    simp [sAt_atF hb0]
    refine r_law_meet (by omega) ?_
    simp
    refine ⟨by omega, ?_⟩
    rw [← List.map_append]
    refine lc_typed PyData.str (fun x => !decide (x ∈ meetL (sAt L f) (sAt L b))) PyData.str _ (fun x hx => ?_) ?_
    · simp
      exact fIn_Dt (α := Str) (by decide) true x _ (by simp)
    · have em : ((many : Int) - 2).toNat = many - 2 := by omega
      rw [em]
      refine ⟨⟨by omega, by omega⟩, ?_⟩
      have hpl : ((sAt L f ++ sAt L b).filter fun x => !decide (x ∈ meetL (sAt L f) (sAt L b))).length ≤ 200 := Nat.le_trans (List.length_filter_le ..) (by simp; omega)
      have hinv : RInv L (meetL (sAt L f) (sAt L b)) ([f, b], (sAt L f ++ sAt L b).filter fun x => !decide (x ∈ meetL (sAt L f) (sAt L b))) := by
        refine ⟨by simp, fun a ha => ?_, fun x => ?_⟩
        · rcases List.mem_cons.mp ha with rfl | ha
          · exact ⟨hf, fun x hx => (meetL_mem.mp hx).1⟩
          · rw [List.mem_singleton.mp ha]; exact ⟨hb0, fun x hx => (meetL_mem.mp hx).2⟩
        · show x ∈ (sAt L f ++ sAt L b).filter _ ↔ _
          rw [List.mem_filter, List.mem_append]
          constructor
          · rintro ⟨h1, h2⟩
            refine ⟨?_, by simpa using h2⟩
            rcases h1 with h1 | h1
            · exact ⟨f, by simp, h1⟩
            · exact ⟨b, by simp, h1⟩
          · rintro ⟨⟨a, ha, h1⟩, h2⟩
            refine ⟨?_, by simpa using h2⟩
            rcases List.mem_cons.mp ha with rfl | ha
            · exact .inl h1
            · rw [List.mem_singleton.mp ha] at h1; exact .inr h1
      have hrb : RB L 2 ([f, b], (sAt L f ++ sAt L b).filter fun x => !decide (x ∈ meetL (sAt L f) (sAt L b))) := by
        refine ⟨by simp, fun k hk => ?_, by simp, Nat.le_trans hpl (by decide)⟩
        rcases List.mem_cons.mp hk with rfl | hk
        · exact hf
        · rw [List.mem_singleton.mp hk]; exact hb0
      have hov : ∀ k, k ≤ many - 2 → (gR L [([f, b], meetL (sAt L f) (sAt L b))] k).length ≤ 14000000 := fun k hk => Nat.le_trans (over_le hfb hb0) (hL.rows k (by omega))
      have hovl : (overTwo L (many - 2) f b).length ≤ 14000000 := hov _ (Nat.le_refl _)
      refine flow3 hlen hS h6 hcore hcl (r0 := ([f, b], meetL (sAt L f) (sAt L b))) (n0 := many - 2) (by omega) hov (fun rows s10' hr => ?_) (rgD 0 (many - 2)) 0 [([f, b], (sAt L f ++ sAt L b).filter fun x => !decide (x ∈ meetL (sAt L f) (sAt L b)))] s10 (by rw [rgD_len]; omega) (fun r hr => by rw [List.mem_singleton.mp hr]; exact hinv) (fun r hr => by rw [List.mem_singleton.mp hr]; exact hrb) rfl
      have hrl : rows.length ≤ 14000000 := by
        have e := congrArg List.length hr
        rw [List.length_map] at e
        rw [e]
        exact hov _ (Nat.le_refl _)
      simp
      refine ⟨by omega, ?_⟩
      refine lc_typed row2D (fun _ => true) (fun q => rowD (q.1, meetL (sAt L f) (sAt L b))) rows (fun q hq => by simp) ?_
      rw [List.filter_eq_self.mpr (fun _ _ => rfl)]
      have er : rows.map (fun q => rowD (q.1, meetL (sAt L f) (sAt L b))) = (overTwo L (many - 2) f b).map rowD := by
        rw [show overTwo L (many - 2) f b = rows.map (fun q => (q.1, meetL (sAt L f) (sAt L b))) from hr.symm, List.map_map]; rfl
      rw [er]
      refine ⟨by simp; omega, ?_⟩
      have := flow4 hL hS hf (Q := Q) bs (G ++ overTwo L (many - 2) f b) s10' (fun x hx => hb x (List.mem_cons_of_mem _ hx)) (by rw [List.length_append]; omega) (fun s10 => by have := q s10; rw [List.flatMap_cons, ← List.append_assoc] at this; exact this)
      rw [List.map_append] at this
      simpa using this
def overOne (L : List (List Str)) (k a : Nat) : List Row := (List.range' (a + 1) (L.length - (a + 1))).flatMap fun b => overTwo L k a b
theorem flow5 {L : List (List Str)} {many : Nat} (hL : LimH L many) (hS : ∀ s ∈ L, s.Pairwise lO) {Q : Fl × Z.Env → Prop} : ∀ (n a : Nat) (G : List Row) (s10 : Sl), a + n = L.length → G.length + ((List.range' a n).flatMap (overOne L (many - 2))).length ≤ 14000000 →
    (∀ s10, Q (.nx, [.imm (tupSS L), .imm (.int many), .lst ((G ++ (List.range' a n).flatMap (overOne L (many - 2))).map rowD), .any, .any, .any, .any, .any, .any, .any, s10, .any, .any, .any, .any, .any])) →
    (loopM [3, 4, 5, 6, 7, 8, 9, 11, 12, 13, 14] (nTup 2 (nCons (nName 3) (nCons (nName 4) nNil))) lb_law_flowers_5 (((List.range' a n).map fun k : Nat => PyData.tuple [.int k, tupS (sAt L k)])) [.imm (tupSS L), .imm (.int many), .lst (G.map rowD), .any, .any, .any, .any, .any, .any, .any, s10, .any, .any, .any, .any, .any]).run Q
  | 0, a, G, s10, _, _, q => by simpa using q s10
  | n + 1, a, G, s10, ha, hl, q => by
    rw [List.range'_succ, List.flatMap_cons, List.length_append] at hl
    rw [List.range'_succ, List.map_cons, loop_cons]
    have hlen := hL.len
    simp
    refine ⟨by omega, ?_⟩
    have e2 : ((L.length : Int) - ((a : Int) + 1)).toNat = L.length - (a + 1) := by omega
    rw [e2, show ((a : Int) + 1) = ((a + 1 : Nat) : Int) by omega, rg_nat2]
    refine flow4 hL hS (f := a) (by omega) _ G s10 (fun b hb => by have := List.mem_range'_1.mp hb; omega) (by unfold overOne at hl; omega) fun s10' => ?_
    simp
    have := flow5 hL hS (Q := Q) n (a + 1) (G ++ overOne L (many - 2) a) s10' (by omega) (by rw [List.length_append]; omega) (fun s10 => by have := q s10; rw [List.range'_succ, List.flatMap_cons, ← List.append_assoc] at this; exact this)
    rw [List.map_append] at this
    unfold overOne at this
    simpa using this
theorem enum_at (L : List (List Str)) : ∀ (rest : List (List Str)) (k : Nat), rest = L.drop k → enumD k (rest.map tupS) = (List.range' k rest.length).map fun k : Nat => PyData.tuple [.int k, tupS (sAt L k)]
  | [], _, _ => rfl
  | s :: r, k, h => by
    have hk : L[k]? = some s := by
      have : (L.drop k)[0]? = some s := by rw [← h]; rfl
      simpa using this
    have e : sAt L k = s := by unfold sAt; rw [List.getD_eq_getElem?_getD, hk]; rfl
    rw [List.map_cons, enumD_c, enum_at L r (k + 1) (by rw [← List.drop_drop, ← h]; rfl), List.length_cons, List.range'_succ, List.map_cons, e]
theorem r_law_flowers {Q : Rv → Prop} {L : List (List Str)} {many : Nat} (hL : LimH L many) (hS : ∀ s ∈ L, s.Pairwise lO) (q : Q (.fr ((levF L (many - 2)).map rowD))) : (m_law_flowers [.imm (tupSS L), .imm (.int many)]).run Q := by
  unfold m_law_flowers
  simp [ms_law_flowers, List.replicate_succ]
  have hlf := hL.rows (many - 2) (by have := hL.mm; omega)
  have hlen := hL.len
  have ev : levF L (many - 2) = (List.range' 0 L.length).flatMap (overOne L (many - 2)) := by
    rw [levF_over, ← List.range_eq_range']; rfl
  rw [ev] at q hlf
  rw [enum_at L L 0 rfl]
  refine flow5 hL hS L.length 0 [] .any (by omega) (by simp only [List.length_nil]; omega) fun s10 => ?_
  simp
  exact q
end Law
namespace Law
open PySem Z
/-! ### flowers grown place by place -/
section
variable {Q : Rv → Prop}
theorem r_meet {a b : List Str} (ha : a.length ≤ 100000) (q : Q (.im (tupS (meetL a b)))) : (m_meet [.imm (tupS a), .imm (tupS b)]).run Q := by
  unfold m_meet
  simp [ms_meet, List.replicate_succ]
  refine ⟨by omega, ?_⟩
  refine lc_typed PyData.str (fun x => decide (x ∈ b)) PyData.str a (fun x hx => ?_) q
  simp
  exact fIn_Dt (α := Str) (by decide) false x b (by simp)
theorem sAt_at {L : List (List Str)} {k : Nat} (h : k < L.length) : L2.atI (L.map tupS) (k : Int) = some (tupS (sAt L k)) := by
  refine at_map ?_
  unfold sAt
  rw [List.getElem?_eq_getElem h, List.getD_eq_getElem?_getD, List.getElem?_eq_getElem h]; rfl
theorem sAt_mem {L : List (List Str)} {k : Nat} (h : k < L.length) : sAt L k ∈ L := by
  unfold sAt
  rw [List.getD_eq_getElem?_getD, List.getElem?_eq_getElem h]
  exact List.getElem_mem h
theorem r_fits {L : List (List Str)} (h6 : ∀ s ∈ L, s.length ≤ 100000) {r : Row} (hr : ∀ k ∈ r.1, k < L.length) (hrl : r.1.length ≤ 100000) {m : Nat} (hm : m < L.length) (q : Q (.im (.bool (fitB L r m)))) : (m_fits [.imm (tupSS L), .imm (natsD r.1), .imm (tupS r.2), .imm (.int m)]).run Q := by
  unfold m_fits
  simp [ms_fits, List.replicate_succ]
  refine ⟨by omega, ?_⟩
  refine lc_typed (fun k : Nat => PyData.int k) (fun k => !decide (meetL (sAt L k) (sAt L m) = r.2)) (fun k : Nat => PyData.int k) r.1 (fun k hk => ?_) ?_
  · have hkl := hr k hk
    simp
    rw [sAt_at hkl, sAt_at hm]
    refine r_meet (h6 _ (sAt_mem hkl)) ?_
    refine fNe_D (α := PySem.W.Tup Str) (by decide) ⟨meetL (sAt L k) (sAt L m)⟩ ⟨r.2⟩ ?_
    simp
  · have e : ∀ ps : List Nat, PyData.list (ps.map fun k : Nat => PyData.int k) = tD (zl ps) := fun ps => natsD_eq ps
    rw [e]
    refine fEq_D (α := List Int) (by decide) _ [] ?_
    have e2 : decide (zl (r.1.filter fun k => !decide (meetL (sAt L k) (sAt L m) = r.2)) = []) = fitB L r m := by
      unfold fitB
      rw [Bool.eq_iff_iff, decide_eq_true_eq, List.map_eq_nil_iff, List.filter_eq_nil_iff, List.all_eq_true]
      constructor
      · intro h x hx; simpa using h x hx
      · intro h x hx; simpa using h x hx
    rw [e2]; exact q
theorem grown_in {L : List (List Str)} (h6 : ∀ s ∈ L, s.length ≤ 100000) {r : Row} (hr : ∀ k ∈ r.1, k < L.length) (hrl : r.1.length ≤ 100000) {s1 : Sl} {Q : Fl × Z.Env → Prop} : ∀ (ms : List Nat) (found : List Row), (∀ m ∈ ms, m < L.length) → found.length + (ms.filter (fitB L r)).length ≤ 16000000 →
    Q (.nx, [.imm (tupSS L), s1, .lst ((found ++ (ms.filter (fitB L r)).map fun m => (r.1 ++ [m], r.2)).map rowD), .imm (natsD r.1), .imm (tupS r.2), .any]) →
    (loopM [5] (nName 5) lb_grown_1 (ms.map fun k : Nat => PyData.int k) [.imm (tupSS L), s1, .lst (found.map rowD), .imm (natsD r.1), .imm (tupS r.2), .any]).run Q
  | [], found, _, _, q => by simpa using q
  | m :: ms, found, hm, hl, q => by
    have hm0 := hm m (List.mem_cons_self ..)
    rw [List.map_cons, loop_cons]
    simp
    refine r_fits h6 hr hrl hm0 ?_
    simp
    by_cases c : fitB L r m = true
    · rw [List.filter_cons_of_pos c, List.length_cons] at hl
      rw [if_pos c]
      refine ⟨by omega, by omega, ?_⟩
      have := grown_in h6 hr hrl (s1 := s1) (Q := Q) ms (found ++ [(r.1 ++ [m], r.2)]) (fun x hx => hm x (List.mem_cons_of_mem _ hx)) (by simp; omega) (by
        rw [List.filter_cons_of_pos c] at q
        simpa using q)
      simpa [rowD, natsD] using this
    · rw [List.filter_cons_of_neg c] at hl
      rw [if_neg c]
      exact grown_in h6 hr hrl ms found (fun x hx => hm x (List.mem_cons_of_mem _ hx)) hl (by
        rw [List.filter_cons_of_neg c] at q
        exact q)
theorem grown_out {L : List (List Str)} (hL : L.length ≤ 100000) (h6 : ∀ s ∈ L, s.length ≤ 100000) {s1 : Sl} {Q : Fl × Z.Env → Prop} : ∀ (rows found : List Row), (∀ r ∈ rows, r.1 ≠ [] ∧ r.1.length ≤ 100000 ∧ ∀ k ∈ r.1, k < L.length) → found.length + (grownL L rows).length ≤ 16000000 →
    Q (.nx, [.imm (tupSS L), s1, .lst ((found ++ grownL L rows).map rowD), .any, .any, .any]) →
    (loopM [3, 4, 5] (nTup 2 (nCons (nName 3) (nCons (nName 4) nNil))) lb_grown_2 (rows.map rowD) [.imm (tupSS L), s1, .lst (found.map rowD), .any, .any, .any]).run Q
  | [], found, _, _, q => by simpa [grownL] using q
  | r :: rows, found, hr, hl, q => by
    obtain ⟨h1, h2, h3⟩ := hr r (List.mem_cons_self ..)
    have eg : grownL L (r :: rows) = kidsR L r ++ grownL L rows := by unfold grownL; rw [List.flatMap_cons]
    rw [eg, List.length_append] at hl
    rw [eg, ← List.append_assoc] at q
    rw [List.map_cons, loop_cons]
    simp [atI_last]
    have hlast : (r.1.map fun k : Nat => PyData.int k).getLast? = some (.int (lastN r.1)) := by
      rw [List.getLast?_map]
      unfold lastN
      cases h : r.1.getLast? with
      | none => exact absurd (List.getLast?_eq_none_iff.mp h) h1
      | some x => rfl
    have hln : lastN r.1 < L.length := by
      unfold lastN
      cases h : r.1.getLast? with
      | none => exact absurd (List.getLast?_eq_none_iff.mp h) h1
      | some x => exact h3 x (List.mem_of_getLast? h)
    have e1 : r.1.getLast?.map (fun k : Nat => PyData.int k) = some (.int (lastN r.1)) := by rw [← List.getLast?_map]; exact hlast
    rw [e1]
    simp
    refine ⟨by omega, ?_⟩
    have e2 : ((L.length : Int) - ((lastN r.1 : Int) + 1)).toNat = L.length - (lastN r.1 + 1) := by omega
    rw [e2, show ((lastN r.1 : Int) + 1) = ((lastN r.1 + 1 : Nat) : Int) by omega, rg_nat2]
    unfold kidsR at hl q
    rw [List.length_map] at hl
    refine grown_in h6 h3 h2 _ found (fun m hm => by have := List.mem_range'_1.mp hm; omega) (by omega) ?_
    simp
    have := grown_out hL h6 (s1 := s1) (Q := Q) rows (found ++ ((List.range' (lastN r.1 + 1) (L.length - (lastN r.1 + 1))).filter (fitB L r)).map fun m => (r.1 ++ [m], r.2)) (fun x hx => hr x (List.mem_cons_of_mem _ hx)) (by simp; omega) q
    simpa using this
theorem r_grown {L : List (List Str)} (hL : L.length ≤ 100000) (h6 : ∀ s ∈ L, s.length ≤ 100000) {rows : List Row} (hr : ∀ r ∈ rows, r.1 ≠ [] ∧ r.1.length ≤ 100000 ∧ ∀ k ∈ r.1, k < L.length) (hl : (grownL L rows).length ≤ 16000000) (q : Q (.fr ((grownL L rows).map rowD))) : (m_grown [.imm (tupSS L), .imm (.list (rows.map rowD))]).run Q := by
  unfold m_grown
  simp [ms_grown, List.replicate_succ]
  refine W.to (grown_out hL h6 (s1 := .imm (.list (rows.map rowD))) (Q := fun r => onFl r (fun e1 => onLst (gt e1 2) fun d => onRet (.rt (.fr d), e1) Q) fun r => onRet r Q) rows [] hr (by simpa using hl) (by simpa using q)) fun r hr => ?_
  obtain ⟨fl, e⟩ := r
  cases fl <;> exact hr
end
end Law
namespace Law
open PySem Z
section
variable {Q : Rv → Prop}
theorem drop_at {L rest : List (List Str)} {one : List Str} {k : Nat} (h : one :: rest = L.drop k) : k < L.length ∧ sAt L k = one ∧ rest = L.drop (k + 1) := by
  have h0 : (L.drop k)[0]? = some one := by rw [← h]; rfl
  rw [List.getElem?_drop] at h0
  have hk : k < L.length := by
    rcases Nat.lt_or_ge k L.length with c | c
    · exact c
    · rw [List.drop_eq_nil_of_le c] at h; cases h
  refine ⟨hk, ?_, by rw [← List.drop_drop, ← h]; rfl⟩
  unfold sAt
  rw [List.getD_eq_getElem?_getD]
  simp at h0
  rw [h0]; rfl
theorem rows_mk (a : Nat) (L : List (List Str)) : (twosL L a).map rowD = (List.range' (a + 1) (L.length - (a + 1))).map fun b => rowD ([a, b], meetL (sAt L a) (sAt L b)) := by
  unfold twosL
  rw [List.map_map]; rfl
theorem begun_loop {L : List (List Str)} (hL : L.length ≤ 10000) (h6 : ∀ s ∈ L, s.length ≤ 100000) (hw : (begunL L).length ≤ 16000000) {Q : Fl × Z.Env → Prop} : ∀ (rest : List (List Str)) (k : Nat) (found : List Row), rest = L.drop k → found = (List.range k).flatMap (twosL L) → k ≤ L.length →
    Q (.nx, [.imm (tupSS L), .lst ((begunL L).map rowD), .any, .any, .any]) →
    (loopM [2, 3] (nTup 2 (nCons (nName 2) (nCons (nName 3) nNil))) lb_begun_1 (enumD k (rest.map tupS)) [.imm (tupSS L), .lst (found.map rowD), .any, .any, .any]).run Q
  | [], k, found, h, hf, hk, q => by
    have : k = L.length := by
      have := congrArg List.length h
      simp at this; omega
    subst this
    rw [hf]
    simpa [begunL] using q
  | one :: rest, k, found, h, hf, hk, q => by
    obtain ⟨hk1, e1, hr⟩ := drop_at h
    rw [List.map_cons, enumD_c, loop_cons]
    simp
    have e2 : ((L.length : Int) - ((k : Int) + 1)).toNat = L.length - (k + 1) := by omega
    rw [e2, show ((k : Int) + 1) = ((k + 1 : Nat) : Int) by omega, rg_nat2]
    refine ⟨by omega, by simp; omega, ?_⟩
    refine lc_typed (fun b : Nat => PyData.int b) (fun _ => true) (fun b => rowD ([k, b], meetL (sAt L k) (sAt L b))) _ (fun b hb => ?_) ?_
    · have hb' := List.mem_range'_1.mp hb
      simp
      rw [sAt_at (by omega : b < L.length)]
      rw [← e1]
      exact r_meet (h6 _ (sAt_mem hk1)) (by simp)
    · rw [List.filter_eq_self.mpr (fun _ _ => rfl), ← rows_mk]
      have hlen : ((List.range (k + 1)).flatMap (twosL L)).length ≤ (begunL L).length := by
        unfold begunL
        have : List.range L.length = List.range (k + 1) ++ (List.range' (k + 1) (L.length - (k + 1))) := by
          rw [List.range_eq_range', List.range_eq_range']
          have := List.range'_append_1 (s := 0) (m := k + 1) (n := L.length - (k + 1))
          rw [Nat.zero_add] at this
          rw [this]
          congr 1
          omega
        rw [this, List.flatMap_append, List.length_append]; omega
      have e3 : found ++ twosL L k = (List.range (k + 1)).flatMap (twosL L) := by rw [List.range_succ, List.flatMap_append, hf]; simp
      have hl3 := congrArg List.length e3
      rw [List.length_append] at hl3
      simp
      refine ⟨by omega, ?_⟩
      have := begun_loop hL h6 hw (Q := Q) rest (k + 1) (found ++ twosL L k) hr e3 (by omega) q
      simpa using this
theorem r_begun {L : List (List Str)} (hL : L.length ≤ 10000) (h6 : ∀ s ∈ L, s.length ≤ 100000) (hw : (begunL L).length ≤ 16000000) (q : Q (.fr ((begunL L).map rowD))) : (m_begun [.imm (tupSS L)]).run Q := by
  unfold m_begun
  simp [ms_begun, List.replicate_succ]
  refine W.to (begun_loop hL h6 hw (Q := fun r => onFl r (fun e1 => onLst (gt e1 1) fun d => onRet (.rt (.fr d), e1) Q) fun r => onRet r Q) L 0 [] rfl rfl (Nat.zero_le _) (by simpa using q)) fun r hr => ?_
  obtain ⟨fl, e⟩ := r
  cases fl <;> exact hr
theorem at_sets {env : Z.Env} {L : List (List Str)} {p : List Nat} {i j : Nat} (hp : ∀ k ∈ p, k < L.length) (hi : gt env i = .imm (tupSS L)) (hj : j < env.length) (hij : i ≠ j) {QL : List PyData → Prop} (q : QL ((setsAt L p).map tupS)) :
    (lcM (nName j) mYes (m2 fIx (mVar i) (mVar j)) env (p.map fun k : Nat => PyData.int k)).run QL := by
  letI := inst0
  refine lc_typed (fun k : Nat => PyData.int k) (fun _ => true) (fun k => tupS (sAt L k)) p (fun k hk => ?_) ?_
  · have g1 : gt (env.set j (.imm (.int k))) j = .imm (.int k) := by rw [gt_set, if_pos ⟨rfl, hj⟩]
    have g2 : gt (env.set j (.imm (.int k))) i = .imm (tupSS L) := by rw [gt_set, if_neg (fun z => hij z.1.symm)]; exact hi
    simp [g1, g2]
    rw [sAt_at (hp k hk)]
    rfl
  · rw [List.filter_eq_self.mpr (fun _ _ => rfl)]
    unfold setsAt at q
    rw [List.map_map] at q
    exact q
theorem rowD_eq (r : Row) : rowD r = tD ((zl r.1, PySem.W.Tup.mk r.2) : List Int × PySem.W.Tup Str) := by
  show PyData.tuple [natsD r.1, _] = PyData.tuple [_, _]
  rw [natsD_eq]; rfl
theorem ne_rows {rows : List Row} {Q : PyData → Prop} (q : Q (.bool (!decide (rows = [])))) : (fNe (.list (rows.map rowD)) (.list [])).run Q := by
  have e : rows.map rowD = (rows.map fun r => ((zl r.1, PySem.W.Tup.mk r.2) : List Int × PySem.W.Tup Str)).map tD := by
    rw [List.map_map]
    exact List.map_congr_left fun r _ => rowD_eq r
  rw [e]
  refine fNe_D (α := List (List Int × PySem.W.Tup Str)) (by decide) _ [] ?_
  simpa using q
/-- the flower at a row, None of no row -/
def flD (L : List (List Str)) (p : List Nat) : PyData := if p = [] then .none else tupSS (setsAt L p)
theorem two_pow_14 {n : Nat} (h : n ≤ 14) : 2 ^ n ≤ 16384 := Nat.pow_le_pow_right (by decide) h
end
end Law
namespace Law
open PySem Z
section
variable {Q : Rv → Prop}
theorem flowers_loopW {L : List (List Str)} {m : Nat} (hL : LimH L m) {s1 : Sl} {Q : Fl × Z.Env → Prop} : ∀ (ds : List PyData) (k : Nat), k + ds.length + 2 ≤ m → Q (.nx, [.imm (tupSS L), s1, .imm (.list ((levF L (k + ds.length)).map rowD)), .any]) →
    (loopM [3] (nName 3) lb_flowers_of_1 ds [.imm (tupSS L), s1, .imm (.list ((levF L k).map rowD)), .any]).run Q
  | [], k, _, q => by simpa using q
  | d :: ds, k, hk, q => by
    rw [List.length_cons] at hk
    rw [loop_cons]
    simp
    have hlen := hL.len
    have hr : ∀ r ∈ levF L k, r.1 ≠ [] ∧ r.1.length ≤ 100000 ∧ ∀ k ∈ r.1, k < L.length := fun r hr => by
      obtain ⟨h2, h3⟩ := (levF_mem _ r).mp hr
      have := h3.len
      exact ⟨fun e => (by rw [e] at h2; cases h2), by omega, h3.2⟩
    have hgl : (grownL L (levF L k)).length ≤ 16000000 := by
      have := hL.rows (k + 1) (by omega)
      unfold levF at this
      omega
    refine r_grown (L := L) (by omega) (fun s hs => Nat.le_trans (hL.six s hs) (by decide)) hr hgl ?_
    simp
    have := flowers_loopW hL (s1 := s1) (Q := Q) ds (k + 1) (by omega) (by
      rw [List.length_cons] at q
      rwa [show k + 1 + ds.length = k + (ds.length + 1) by omega])
    unfold levF at this
    exact this
theorem r_flowers_of {L : List (List Str)} {m : Nat} (hL : LimH L m) (q : Q (.im (.list ((levF L (m - 2)).map rowD)))) : (m_flowers_of [.imm (tupSS L), .imm (.int m)]).run Q := by
  unfold m_flowers_of
  simp [ms_flowers_of, List.replicate_succ]
  have hb := hL.rows 0 hL.mm.1
  have hm := hL.mm
  have hlen := hL.len
  refine r_begun (by omega) (fun s hs => Nat.le_trans (hL.six s hs) (by decide)) (by unfold levF at hb; omega) ?_
  simp
  refine ⟨by omega, ?_⟩
  refine W.to (flowers_loopW hL (s1 := .imm (.int m)) (Q := fun r => onFl r (fun e1 => onImm (gt e1 2) fun d => onRet (.rt (.im d), e1) Q) fun r => onRet r Q) _ 0 (by rw [Z.rgD_len]; omega) ?_) fun r hr => ?_
  · rw [Z.rgD_len]
    rw [show 0 + ((m : Int) - 2).toNat = m - 2 by omega]
    simpa using q
  · obtain ⟨fl, e⟩ := r
    cases fl <;> exact hr
end
end Law
namespace Law
open PySem Z
/-! ### the cores of all flowers -/
def coresL (L : List (List Str)) (k : Nat) : List (List Str) := (List.range k).flatMap fun a => (L.take a).map fun o => meetL (sAt L a) o
theorem coresL_mem {L : List (List Str)} {c : List Str} : c ∈ coresL L L.length ↔ ∃ a b, b < a ∧ a < L.length ∧ c = meetL (sAt L a) (sAt L b) := by
  unfold coresL
  rw [List.mem_flatMap]
  constructor
  · rintro ⟨a, ha, h⟩
    obtain ⟨o, ho, rfl⟩ := List.mem_map.mp h
    obtain ⟨b, hb, e⟩ := List.mem_take_iff_getElem.mp ho
    have ha := List.mem_range.mp ha
    refine ⟨a, b, by omega, ha, ?_⟩
    congr 1
    unfold sAt
    rw [List.getD_eq_getElem?_getD, List.getElem?_eq_getElem (by omega), ← e]; rfl
  · rintro ⟨a, b, h1, h2, rfl⟩
    refine ⟨a, List.mem_range.mpr h2, List.mem_map.mpr ⟨sAt L b, List.mem_take_iff_getElem.mpr ⟨b, by omega, ?_⟩, rfl⟩⟩
    unfold sAt
    rw [List.getD_eq_getElem?_getD, List.getElem?_eq_getElem (by omega)]; rfl
theorem coresL_succ (L : List (List Str)) (k : Nat) : coresL L (k + 1) = coresL L k ++ (L.take k).map fun o => meetL (sAt L k) o := by
  unfold coresL
  rw [List.range_succ, List.flatMap_append]
  simp
theorem coresL_len (L : List (List Str)) : ∀ k, k ≤ 14 → (coresL L k).length ≤ 14 * k
  | 0, _ => by simp [coresL]
  | k + 1, h => by
    have := coresL_len L k (by omega)
    rw [coresL_succ, List.length_append, List.length_map, List.length_take]
    omega
def cntC (L : List (List Str)) (k : Nat) (c : List Str) : Nat := ((levF L k).filter fun r => decide (r.2 = c)).length
theorem sum_cast' : ∀ l : List Nat, ((l.sum : Nat) : Int) = (l.map fun x : Nat => (x : Int)).sum
  | [] => rfl
  | x :: r => by rw [List.map_cons, List.sum_cons, List.sum_cons, ← sum_cast' r]; push_cast; rfl
theorem sum_cores : ∀ (cs : List (List Str)) (rows : List Row), cs.Nodup → (∀ r ∈ rows, r.2 ∈ cs) → (cs.map fun c => (rows.filter fun r => decide (r.2 = c)).length).sum = rows.length
  | cs, [], _, _ => by
    have h0 : ∀ cs : List (List Str), (cs.map fun _ => (0 : Nat)).sum = 0 := by
      intro cs
      induction cs with
      | nil => rfl
      | cons c cs ih => rw [List.map_cons, List.sum_cons, ih]
    exact h0 cs
  | cs, r :: rows, hn, h => by
    have ih := sum_cores cs rows hn fun x hx => h x (List.mem_cons_of_mem _ hx)
    have hr := h r (List.mem_cons_self ..)
    rw [List.length_cons, ← ih]
    clear ih h
    induction cs with
    | nil => cases hr
    | cons c cs ih2 =>
      rw [List.nodup_cons] at hn
      rw [List.map_cons, List.map_cons, List.sum_cons, List.sum_cons]
      by_cases e : r.2 = c
      · rw [List.filter_cons_of_pos (by simpa using e), List.length_cons]
        have : cs.map (fun c => ((r :: rows).filter fun r => decide (r.2 = c)).length) = cs.map fun c => (rows.filter fun r => decide (r.2 = c)).length := by
          refine List.map_congr_left fun d hd => ?_
          rw [List.filter_cons_of_neg]
          simp only [decide_eq_true_eq]
          intro e2
          exact hn.1 (e ▸ e2 ▸ hd)
        rw [this]; omega
      · rw [List.filter_cons_of_neg (by simpa using e)]
        rcases List.mem_cons.mp hr with h1 | h1
        · exact absurd h1 e
        · have := ih2 hn.2 h1
          omega
theorem core_in {L : List (List Str)} (hS : ∀ s ∈ L, s.Pairwise lO) {k : Nat} : ∀ r ∈ levF L k, r.2 ∈ coresL L L.length := fun r hr => by
  obtain ⟨h1, h2⟩ := (levF_mem k r).mp hr
  refine coresL_mem.mpr ?_
  obtain ⟨p, c⟩ := r
  match p, h1 with
  | a :: b :: q, _ =>
    have h3 := (List.pairwise_cons.mp h2.1).1 b (by simp)
    refine ⟨b, a, h3.1, h2.2 b (by simp), ?_⟩
    rw [meetL_comm (sAt_pw hS b) (sAt_pw hS a)]
    exact h3.2.symm
theorem core_srt {L : List (List Str)} (hS : ∀ s ∈ L, s.Pairwise lO) {c : List Str} (h : c ∈ coresL L L.length) : c.Pairwise lO := by
  obtain ⟨a, b, _, _, rfl⟩ := coresL_mem.mp h
  exact meetL_pw (sAt_pw hS a)
theorem core_len {L : List (List Str)} {n : Nat} (hS : ∀ s ∈ L, s.length ≤ n) {c : List Str} (h : c ∈ coresL L L.length) : c.length ≤ n := by
  obtain ⟨a, b, _, ha, rfl⟩ := coresL_mem.mp h
  refine Nat.le_trans (List.length_filter_le ..) (hS _ ?_)
  unfold sAt
  rw [List.getD_eq_getElem?_getD, List.getElem?_eq_getElem ha]
  exact List.getElem_mem ha
/-- the cores of the flowers of so many, each once, in order -/
def corS (L : List (List Str)) (k : Nat) : List (List Str) := ssetT ((levF L k).map (·.2))
theorem corS_in {L : List (List Str)} (hS : ∀ s ∈ L, s.Pairwise lO) {k : Nat} : ∀ c ∈ corS L k, c ∈ coresL L L.length := fun c hc => by
  obtain ⟨r, hr, rfl⟩ := List.mem_map.mp (ssetT_mem.mp hc)
  exact core_in hS r hr
theorem corS_sum (L : List (List Str)) (k : Nat) : ((corS L k).map (cntC L k)).sum = (levF L k).length :=
  sum_cores _ _ (ltT_nodup (ssetT_lt _)) fun r hr => ssetT_mem.mpr (List.mem_map.mpr ⟨r, hr, rfl⟩)
end Law
namespace Law
open PySem Z
/-! ### which keys a dict has -/
section
variable {κ : Type} [DecidableEq κ]
def hasK (kvs : List (κ × PyData)) (k : κ) : Bool := kvs.any fun p => decide (p.1 = k)
theorem look_has (kvs : List (κ × PyData)) (k : κ) : (lookP kvs k).isSome = hasK kvs k := by
  unfold lookP hasK
  rw [Option.isSome_map]
  induction kvs with
  | nil => rfl
  | cons p r ih =>
    rw [List.find?_cons, List.any_cons]
    cases c : decide (p.1 = k) with
    | true => rfl
    | false => rw [Bool.false_or]; exact ih
theorem put_has (kvs : List (κ × PyData)) (a k : κ) (d : PyData) : hasK (putP kvs a d) k = (decide (a = k) || hasK kvs k) := by
  unfold putP
  split
  · rename_i h
    have e : hasK (kvs.map fun p => if p.1 = a then (p.1, d) else p) k = hasK kvs k := by
      unfold hasK
      rw [List.any_map]
      congr 1
      funext p
      show decide ((if p.1 = a then (p.1, d) else p).1 = k) = _
      split <;> rfl
    rw [e]
    by_cases c : a = k
    · subst c
      have : hasK kvs a = true := h
      rw [this, Bool.or_true]
    · rw [decide_eq_false c, Bool.false_or]
  · unfold hasK
    rw [List.any_append, List.any_cons, List.any_nil, Bool.or_false, Bool.or_comm]
theorem put_len (kvs : List (κ × PyData)) (a : κ) (d : PyData) : (putP kvs a d).length ≤ kvs.length + 1 := by
  unfold putP
  split
  · rw [List.length_map]; omega
  · rw [List.length_append]; simp
end
@[simp] theorem keyT_T (s : List Str) (Q : List L2.Key → Prop) : (keyT (tupS s)).run Q = Q (s.map .inr) := by
  letI := inst0
  exact keyT_S s Q
end Law
namespace Law
open PySem Z
/-! ### dicts whose keys are places below a number -/
structure Kd (n : Nat) (kvs : List (L2.Key × PyData)) : Prop where
  nd : (kvs.map (·.1)).Nodup
  lt : ∀ p ∈ kvs, ∃ k : Nat, k < n ∧ p.1 = .inl (k : Int)
theorem Kd.nil {n : Nat} : Kd n [] := ⟨List.nodup_nil, fun p h => by cases h⟩
theorem Kd.len {n : Nat} {kvs : List (L2.Key × PyData)} (h : Kd n kvs) : kvs.length ≤ n := by
  have := ZT.len_sub (kvs.map (·.1)) ((List.range n).map fun k : Nat => (.inl (k : Int) : L2.Key)) h.nd fun x hx => by
    obtain ⟨p, hp, rfl⟩ := List.mem_map.mp hx
    obtain ⟨k, hk, e⟩ := h.lt p hp
    exact List.mem_map.mpr ⟨k, List.mem_range.mpr hk, e.symm⟩
  simpa using this
theorem Kd.put {n : Nat} {kvs : List (L2.Key × PyData)} (h : Kd n kvs) {k : Nat} (hk : k < n) (d : PyData) : Kd n (putP kvs (.inl (k : Int)) d) := by
  unfold putP
  split
  · rename_i hh
    have e : (kvs.map fun p => if p.1 = (.inl (k : Int) : L2.Key) then (p.1, d) else p).map (·.1) = kvs.map (·.1) := by
      rw [List.map_map]
      refine List.map_congr_left fun p _ => ?_
      show (if p.1 = (.inl (k : Int) : L2.Key) then (p.1, d) else p).1 = p.1
      split <;> rfl
    refine ⟨by rw [e]; exact h.nd, fun p hp => ?_⟩
    have : p.1 ∈ (kvs.map fun p => if p.1 = (.inl (k : Int) : L2.Key) then (p.1, d) else p).map (·.1) := List.mem_map_of_mem hp
    rw [e] at this
    obtain ⟨q, hq, e2⟩ := List.mem_map.mp this
    obtain ⟨j, hj, e3⟩ := h.lt q hq
    exact ⟨j, hj, by rw [← e2]; exact e3⟩
  · rename_i hh
    refine ⟨?_, fun p hp => ?_⟩
    · rw [List.map_append, List.nodup_append]
      refine ⟨h.nd, by simp, fun a ha b hb e => ?_⟩
      have hb2 : b = .inl (k : Int) := by simpa using hb
      subst e
      obtain ⟨q, hq, e2⟩ := List.mem_map.mp ha
      refine hh ?_
      rw [List.any_eq_true]
      exact ⟨q, hq, by simp [e2, hb2]⟩
    · rcases List.mem_append.mp hp with hp | hp
      · exact h.lt p hp
      · have : p = (.inl (k : Int), d) := by simpa using hp
        subst this
        exact ⟨k, hk, rfl⟩
end Law
namespace Law
open PySem Z
/-! ### the next level of cores -/
def Mk (kvs : List (L2.Key × PyData)) (S : List Nat) : Prop := ∀ k : Nat, hasK kvs (.inl (k : Int)) = decide (k ∈ S)
theorem Mk.put {kvs : List (L2.Key × PyData)} {S : List Nat} (h : Mk kvs S) (p : Nat) (d : PyData) : Mk (putP kvs (.inl (p : Int)) d) (S ++ [p]) := fun k => by
  rw [put_has, h k, Bool.eq_iff_iff]
  simp
  constructor
  · rintro (h | h)
    · exact .inr (by have h : (p : Int) = k := h; omega)
    · exact .inl h
  · rintro (h | h)
    · exact .inr h
    · exact .inl (by have h : k = p := h; rw [h])
def usedP (L : List (List Str)) (k : Nat) : List Nat := (levF L k).flatMap (·.1)
def leftP (L : List (List Str)) (k : Nat) : List (List Str) := ((List.range L.length).filter fun p => !decide (p ∈ usedP L k)).map (sAt L)
/-- the cores of all flowers, and the sets that are in none -/
def nextL (L : List (List Str)) (k : Nat) : List (List Str) := ssetT (leftP L k ++ (levF L k).map (·.2))
theorem leftP_sub {L : List (List Str)} {k : Nat} : ∀ s ∈ leftP L k, s ∈ L := fun s hs => by
  obtain ⟨p, hp, rfl⟩ := List.mem_map.mp hs
  exact sAt_mem (List.mem_range.mp (List.mem_filter.mp hp).1)
theorem nextL_lim {L : List (List Str)} (hS : ∀ s ∈ L, s.Pairwise lO) {k : Nat} : ∀ s ∈ leftP L k ++ (levF L k).map (·.2), s ∈ L ++ coresL L L.length := fun s hs => by
  rcases List.mem_append.mp hs with h | h
  · exact List.mem_append_left _ (leftP_sub s h)
  · obtain ⟨r, hr, rfl⟩ := List.mem_map.mp h
    exact List.mem_append_right _ (core_in hS r hr)
theorem enum_row (L : List (List Str)) : ∀ (rest : List (List Str)) (k : Nat), rest = L.drop k → enumD k (rest.map tupS) = (List.range' k rest.length).map fun k : Nat => PyData.tuple [.int k, tupS (sAt L k)]
  | [], _, _ => rfl
  | s :: r, k, h => by
    have hk : L[k]? = some s := by
      have : (L.drop k)[0]? = some s := by rw [← h]; rfl
      simpa using this
    have e : sAt L k = s := by unfold sAt; rw [List.getD_eq_getElem?_getD, hk]; rfl
    rw [List.map_cons, enumD_c, enum_row L r (k + 1) (by rw [← List.drop_drop, ← h]; rfl), List.length_cons, List.range'_succ, List.map_cons, e]
section
variable {L : List (List Str)} {s1 s2 : Sl}
abbrev nEnv (L : List (List Str)) (s1 s2 : Sl) (kvs : List (L2.Key × PyData)) (s4 s5 s6 : Sl) : Z.Env := [.imm (tupSS L), s1, s2, .dK kvs, s4, s5, s6, .any, .any]
theorem mark_in {s4 s5 : Sl} {Q : Fl × Z.Env → Prop} {N : Nat} (hN : N ≤ 26000) : ∀ (ps S : List Nat) (kvs : List (L2.Key × PyData)) (s6 : Sl), (∀ p ∈ ps, p < N) → Mk kvs S → Kd N kvs →
    (∀ kvs' s6', Mk kvs' (S ++ ps) → Kd N kvs' → Q (.nx, nEnv L s1 s2 kvs' s4 s5 s6')) →
    (loopM [] (nName 6) lb_next_level_1 (ps.map fun k : Nat => PyData.int k) (nEnv L s1 s2 kvs s4 s5 s6)).run Q
  | [], S, kvs, s6, _, h, hk, q => by simpa using q kvs s6 (by simpa using h) hk
  | p :: ps, S, kvs, s6, hp, h, hk, q => by
    have hl := hk.len
    rw [List.map_cons, loop_cons]
    simp
    refine ⟨by omega, ?_⟩
    have := mark_in (Q := Q) (s4 := s4) (s5 := s5) hN ps (S ++ [p]) _ (.imm (.int p)) (fun x hx => hp x (List.mem_cons_of_mem _ hx)) (h.put p (.bool true)) (hk.put (hp p (List.mem_cons_self ..)) (.bool true)) (fun kvs' s6' h1 h2 => q kvs' s6' (by simpa using h1) h2)
    simpa using this
theorem mark_out {N : Nat} (hN : N ≤ 26000) {Q : Fl × Z.Env → Prop} : ∀ (rows : List Row) (S : List Nat) (kvs : List (L2.Key × PyData)) (s5 s6 : Sl), (∀ r ∈ rows, ∀ p ∈ r.1, p < N) → Mk kvs S → Kd N kvs →
    (∀ kvs' s5 s6', Mk kvs' (S ++ rows.flatMap (·.1)) → Q (.nx, nEnv L s1 s2 kvs' .any s5 s6')) →
    (loopM [4] (nTup 2 (nCons (nName 4) (nCons (nName 5) nNil))) lb_next_level_2 (rows.map rowD) (nEnv L s1 s2 kvs .any s5 s6)).run Q
  | [], S, kvs, s5, s6, _, h, _, q => by simpa using q kvs s5 s6 (by simpa using h)
  | r :: rows, S, kvs, s5, s6, hp, h, hk, q => by
    have h1 := hp r (List.mem_cons_self ..)
    rw [List.map_cons, loop_cons]
    simp
    refine mark_in hN r.1 S kvs s6 h1 h hk fun kvs' s6' k1 k2 => ?_
    simp
    have := mark_out hN (Q := Q) rows (S ++ r.1) kvs' (.imm (tupS r.2)) s6' (fun x hx => hp x (List.mem_cons_of_mem _ hx)) k1 k2 (fun kvs' s5 s6' h1 => q kvs' s5 s6' (by rw [List.flatMap_cons, ← List.append_assoc]; exact h1))
    simpa using this
theorem left_lc {kvs : List (L2.Key × PyData)} {k : Nat} (hk : Mk kvs (usedP L k)) {s2 s4 s5 s6 : Sl} {QL : List PyData → Prop} (q : QL ((leftP L k).map tupS)) :
    (lcM (nTup 2 (nCons (nName 6) (nCons (nName 8) nNil))) (mBool (mDIn true 3 (mVar 6))) (mVar 8) (nEnv L s1 s2 kvs s4 s5 s6) (enumD 0 (L.map tupS))).run QL := by
  rw [enum_row L L 0 rfl]
  refine lc_typed (fun p : Nat => PyData.tuple [.int p, tupS (sAt L p)]) (fun p => !decide (p ∈ usedP L k)) (fun p => tupS (sAt L p)) (List.range' 0 L.length) (fun p hp => ?_) ?_
  · simp [look_has, hk p]
  · unfold leftP at q
    rw [List.map_map, List.range_eq_range'] at q
    exact q
end
theorem r_next_level {Q : Rv → Prop} {L lim : List (List Str)} {m : Nat} (hL : LimH L m) (hlim : lim.length ≤ 3990) (hs : ∀ s ∈ leftP L (m - 2) ++ (levF L (m - 2)).map (·.2), s ∈ lim) (q : Q (.im (tupSS (nextL L (m - 2))))) : (m_next_level [.imm (tupSS L), .imm (.int m)]).run Q := by
  unfold m_next_level
  have hm := hL.mm
  have hlen := hL.len
  have hb := hL.rows (m - 2) (by omega)
  simp [ms_next_level, List.replicate_succ]
  refine r_flowers_of hL ?_
  simp
  have hN : ∀ r ∈ levF L (m - 2), ∀ p ∈ r.1, p < L.length := fun r hr => ((levF_mem _ r).mp hr).2.2
  refine mark_out (N := L.length) (by omega) (levF L (m - 2)) [] [] .any .any hN (fun k => by simp [hasK]) .nil fun kvs s5 s6 hk => ?_
  rw [List.nil_append] at hk
  simp
  refine ⟨by rw [enum_row L L 0 rfl]; simp; omega, ?_⟩
  refine left_lc hk ?_
  simp
  refine ⟨by omega, ?_⟩
  refine lc_typed rowD (fun _ => true) (fun r => tupS r.2) (levF L (m - 2)) (fun r hr => by simp) ?_
  rw [List.filter_eq_self.mpr (fun _ _ => rfl)]
  have e1 : (levF L (m - 2)).map (fun r => tupS r.2) = ((levF L (m - 2)).map (·.2)).map tupS := by rw [List.map_map]; rfl
  have e2 : (leftP L (m - 2)).map tupS ++ ((levF L (m - 2)).map (·.2)).map tupS = (leftP L (m - 2) ++ (levF L (m - 2)).map (·.2)).map tupS := by rw [List.map_append]
  rw [e1, e2]
  have hll : (leftP L (m - 2)).length ≤ 2600 := by
    unfold leftP
    rw [List.length_map]
    exact Nat.le_trans (List.length_filter_le ..) (by simpa using hlen)
  refine ⟨by simp; omega, ?_⟩
  refine (run_sortsetT (lim := lim) (by omega) hs ?_).1
  exact q
theorem next_lim14 {L : List (List Str)} (hL : L.length ≤ 14) (hS : ∀ s ∈ L, s.Pairwise lO) {k : Nat} : (L ++ coresL L L.length).length ≤ 3990 ∧ ∀ s ∈ leftP L k ++ (levF L k).map (·.2), s ∈ L ++ coresL L L.length := by
  have hcl := coresL_len L L.length hL
  exact ⟨by rw [List.length_append]; omega, nextL_lim hS⟩
section
variable {names : List Str} {L : List (List Str)}
theorem row_core {r : Row} {k : Nat} (hr : r ∈ levF L k) : ∃ a b, a < b ∧ b < L.length ∧ r.2 = meetL (sAt L a) (sAt L b) := by
  obtain ⟨h2, h3⟩ := (levF_mem k r).mp hr
  obtain ⟨p, c⟩ := r
  match p, h2 with
  | a :: b :: q, _ =>
    have h4 := (List.pairwise_cons.mp h3.1).1 b (by simp)
    exact ⟨a, b, h4.1, h3.2 b (by simp), h4.2.symm⟩
/-- a core has fewer names than some set -/
theorem FewH.core5 (h : FewH names L) {k : Nat} {r : Row} (hr : r ∈ levF L k) : r.2.length ≤ 5 := by
  obtain ⟨a, b, h1, h2, e⟩ := row_core hr
  have ha := sAt_mem (L := L) (k := a) (by omega)
  have hb := sAt_mem (L := L) (k := b) h2
  rcases Nat.lt_or_ge r.2.length 6 with c | c
  · omega
  · exfalso
    have la := h.six _ ha
    have lb := h.six _ hb
    have m1 : (meetL (sAt L a) (sAt L b)).length = (sAt L a).length := Nat.le_antisymm (List.length_filter_le ..) (by rw [← e]; omega)
    have s1 : ∀ z ∈ sAt L a, z ∈ sAt L b := fun z hz => by
      have := List.length_filter_eq_length_iff.mp m1 z hz
      simpa using this
    have e2 : meetL (sAt L b) (sAt L a) = meetL (sAt L a) (sAt L b) := meetL_comm (h.srt _ hb) (h.srt _ ha)
    have m2 : (meetL (sAt L b) (sAt L a)).length = (sAt L b).length := Nat.le_antisymm (List.length_filter_le ..) (by rw [e2, ← e]; omega)
    have s2 : ∀ z ∈ sAt L b, z ∈ sAt L a := fun z hz => by
      have := List.length_filter_eq_length_iff.mp m2 z hz
      simpa using this
    have := sAt_inj h.nd (by omega) h2 (lt_unique (h.srt _ ha) (h.srt _ hb) fun z => ⟨s1 z, s2 z⟩)
    omega
theorem FewH.nxt (h : FewH names L) {k : Nat} : ∀ s ∈ leftP L k ++ (levF L k).map (·.2), s.Pairwise lO ∧ (∀ x ∈ s, x ∈ names) ∧ s.length ≤ 6 ∧ (s.length = 6 → s ∈ L) := fun s hs => by
  rcases List.mem_append.mp hs with hs | hs
  · have := leftP_sub s hs
    exact ⟨h.srt s this, h.sub s this, h.six s this, fun _ => this⟩
  · obtain ⟨r, hr, rfl⟩ := List.mem_map.mp hs
    have h5 := h.core5 hr
    obtain ⟨a, b, h1, h2, e⟩ := row_core hr
    have ha := sAt_mem (L := L) (k := a) (by omega)
    rw [e] at h5 ⊢
    exact ⟨meetL_pw (h.srt _ ha), fun x hx => h.sub _ ha x (meetL_mem.mp hx).1, by omega, fun z => by omega⟩
theorem FewH.nlim (h : FewH names L) {k : Nat} : ∀ s ∈ leftP L k ++ (levF L k).map (·.2), s ∈ subsB (sset names) 6 := fun s hs => by
  obtain ⟨h1, h2, h3, _⟩ := h.nxt s hs
  exact subB_of h1 h2 h3
theorem FewH.next (h : FewH names L) (k : Nat) : FewH names (nextL L k) := by
  refine ⟨h.nm, ssetT_lt _, fun s hs => (h.nxt s (ssetT_mem.mp hs)).1, fun s hs => (h.nxt s (ssetT_mem.mp hs)).2.1, fun s hs => (h.nxt s (ssetT_mem.mp hs)).2.2.1, Nat.le_trans ?_ h.big⟩
  refine ZT.len_sub _ _ ((ltT_nodup (ssetT_lt _)).sublist List.filter_sublist) fun s hs => ?_
  obtain ⟨h1, h2⟩ := List.mem_filter.mp hs
  exact List.mem_filter.mpr ⟨(h.nxt s (ssetT_mem.mp h1)).2.2.2 (by simpa using h2), h2⟩
end
end Law
namespace Law
open PySem Z
/-! ### the law's next level: by the sets themselves -/
def MkT (kvs : List (List L2.Key × PyData)) (S : List (List Str)) : Prop := ∀ s : List Str, hasK kvs (s.map .inr) = decide (s ∈ S)
theorem inr_inj : ∀ {a b : List Str}, a.map (Sum.inr : Str → L2.Key) = b.map .inr → a = b
  | [], [], _ => rfl
  | [], _ :: _, h => by cases h
  | _ :: _, [], h => by cases h
  | x :: a, y :: b, h => by
    rw [List.map_cons, List.map_cons] at h
    injection h with h1 h2
    injection h1 with h1
    rw [h1, inr_inj h2]
theorem MkT.put {kvs : List (List L2.Key × PyData)} {S : List (List Str)} (h : MkT kvs S) (p : List Str) (d : PyData) : MkT (putP kvs (p.map .inr) d) (S ++ [p]) := fun k => by
  rw [put_has, h k, Bool.eq_iff_iff]
  simp only [Bool.or_eq_true, decide_eq_true_eq, List.mem_append, List.mem_singleton]
  constructor
  · rintro (h | h)
    · exact .inr (inr_inj h).symm
    · exact .inl h
  · rintro (h | h)
    · exact .inr h
    · exact .inl (by rw [h])
def usedS (L : List (List Str)) (k : Nat) : List (List Str) := (levF L k).flatMap fun r => r.1.map (sAt L)
/-- dicts whose keys are sets of a collection -/
structure KdT (L : List (List Str)) (kvs : List (List L2.Key × PyData)) : Prop where
  nd : (kvs.map (·.1)).Nodup
  lt : ∀ p ∈ kvs, ∃ s ∈ L, p.1 = s.map .inr
theorem KdT.nil {L : List (List Str)} : KdT L [] := ⟨List.nodup_nil, fun p h => by cases h⟩
theorem KdT.len {L : List (List Str)} {kvs : List (List L2.Key × PyData)} (h : KdT L kvs) : kvs.length ≤ L.length := by
  have := ZT.len_sub (kvs.map (·.1)) (L.map fun s => s.map (Sum.inr : Str → L2.Key)) h.nd fun x hx => by
    obtain ⟨p, hp, rfl⟩ := List.mem_map.mp hx
    obtain ⟨s, hs, e⟩ := h.lt p hp
    exact List.mem_map.mpr ⟨s, hs, e.symm⟩
  simpa using this
theorem KdT.put {L : List (List Str)} {kvs : List (List L2.Key × PyData)} (h : KdT L kvs) {s : List Str} (hs : s ∈ L) (d : PyData) : KdT L (putP kvs (s.map .inr) d) := by
  unfold putP
  split
  · rename_i hh
    have e : (kvs.map fun p => if p.1 = s.map .inr then (p.1, d) else p).map (·.1) = kvs.map (·.1) := by
      rw [List.map_map]
      refine List.map_congr_left fun p _ => ?_
      show (if p.1 = s.map .inr then (p.1, d) else p).1 = p.1
      split <;> rfl
    refine ⟨by rw [e]; exact h.nd, fun p hp => ?_⟩
    have : p.1 ∈ (kvs.map fun p => if p.1 = s.map .inr then (p.1, d) else p).map (·.1) := List.mem_map_of_mem hp
    rw [e] at this
    obtain ⟨q, hq, e2⟩ := List.mem_map.mp this
    obtain ⟨t, ht, e3⟩ := h.lt q hq
    exact ⟨t, ht, by rw [← e2]; exact e3⟩
  · rename_i hh
    refine ⟨?_, fun p hp => ?_⟩
    · rw [List.map_append, List.nodup_append]
      refine ⟨h.nd, by simp, fun a ha b hb e => ?_⟩
      have hb2 : b = s.map .inr := by simpa using hb
      subst e
      obtain ⟨q, hq, e2⟩ := List.mem_map.mp ha
      refine hh ?_
      rw [List.any_eq_true]
      exact ⟨q, hq, by simp [e2, hb2]⟩
    · rcases List.mem_append.mp hp with hp | hp
      · exact h.lt p hp
      · have : p = (s.map .inr, d) := by simpa using hp
        subst this
        exact ⟨s, hs, rfl⟩
section
variable {L : List (List Str)} {s1 s2 : Sl}
abbrev hEnv (L : List (List Str)) (s1 s2 : Sl) (kvs : List (List L2.Key × PyData)) (s4 s5 s6 : Sl) : Z.Env := [.imm (tupSS L), s1, s2, .dT kvs, s4, s5, s6, .any]
theorem held_in {s4 s5 : Sl} {Q : Fl × Z.Env → Prop} (hL : L.length ≤ 2600) : ∀ (ps : List Nat) (S : List (List Str)) (kvs : List (List L2.Key × PyData)), (∀ p ∈ ps, p < L.length) → MkT kvs S → KdT L kvs →
    (∀ kvs', MkT kvs' (S ++ ps.map (sAt L)) → KdT L kvs' → Q (.nx, hEnv L s1 s2 kvs' s4 s5 .any)) →
    (loopM [6] (nName 6) lb_law_next_1 (ps.map fun k : Nat => PyData.int k) (hEnv L s1 s2 kvs s4 s5 .any)).run Q
  | [], S, kvs, _, h, hk, q => by simpa using q kvs (by simpa using h) hk
  | p :: ps, S, kvs, hp, h, hk, q => by
    have hl := hk.len
    have hp0 := hp p (List.mem_cons_self ..)
    rw [List.map_cons, loop_cons]
    simp
    rw [sAt_at hp0]
    simp only [onSome_s]
    rw [keyT_T]
    refine ⟨by omega, ?_⟩
    have := held_in (Q := Q) (s4 := s4) (s5 := s5) hL ps (S ++ [sAt L p]) _ (fun x hx => hp x (List.mem_cons_of_mem _ hx)) (h.put (sAt L p) (.bool true)) (hk.put (sAt_mem hp0) (.bool true)) (fun kvs' h1 h2 => q kvs' (by simpa using h1) h2)
    simpa using this
theorem held_out (hL : L.length ≤ 2600) {Q : Fl × Z.Env → Prop} : ∀ (rows : List Row) (S : List (List Str)) (kvs : List (List L2.Key × PyData)) (s5 : Sl), (∀ r ∈ rows, ∀ p ∈ r.1, p < L.length) → MkT kvs S → KdT L kvs →
    (∀ kvs' s5, MkT kvs' (S ++ rows.flatMap fun r => r.1.map (sAt L)) → Q (.nx, hEnv L s1 s2 kvs' .any s5 .any)) →
    (loopM [4, 6] (nTup 2 (nCons (nName 4) (nCons (nName 5) nNil))) lb_law_next_2 (rows.map rowD) (hEnv L s1 s2 kvs .any s5 .any)).run Q
  | [], S, kvs, s5, _, h, _, q => by simpa using q kvs s5 (by simpa using h)
  | r :: rows, S, kvs, s5, hN, h, hk, q => by
    have h2 := hN r (List.mem_cons_self ..)
    rw [List.map_cons, loop_cons]
    simp
    refine held_in hL r.1 S kvs h2 h hk fun kvs' k1 k2 => ?_
    simp
    have := held_out hL (Q := Q) rows (S ++ r.1.map (sAt L)) kvs' (.imm (tupS r.2)) (fun x hx => hN x (List.mem_cons_of_mem _ hx)) k1 k2 (fun kvs' s5 h1 => q kvs' s5 (by rw [List.flatMap_cons, ← List.append_assoc]; exact h1))
    simpa using this
end
theorem nextL_eq {L : List (List Str)} (hn : L.Nodup) (k : Nat) : ssetT ((levF L k).map (·.2) ++ L.filter fun s => !decide (s ∈ usedS L k)) = nextL L k := by
  refine ltT_unique (ssetT_lt _) (ssetT_lt _) fun s => ?_
  unfold nextL
  rw [ssetT_mem, ssetT_mem, List.mem_append, List.mem_append, or_comm]
  refine or_congr ?_ Iff.rfl
  have key : ∀ p, p < L.length → (sAt L p ∈ usedS L k ↔ p ∈ usedP L k) := fun p hp => by
    unfold usedS usedP
    rw [List.mem_flatMap, List.mem_flatMap]
    constructor
    · rintro ⟨r, hr, h⟩
      obtain ⟨a, ha, e⟩ := List.mem_map.mp h
      have hal := ((levF_mem k r).mp hr).2.2 a ha
      rw [sAt_inj hn hal hp e] at ha
      exact ⟨r, hr, ha⟩
    · rintro ⟨r, hr, h⟩
      exact ⟨r, hr, List.mem_map.mpr ⟨p, h, rfl⟩⟩
  unfold leftP
  rw [List.mem_map, List.mem_filter]
  constructor
  · rintro ⟨h1, h2⟩
    obtain ⟨p, hp, rfl⟩ := List.getElem_of_mem h1
    have e : sAt L p = L[p] := by unfold sAt; rw [List.getD_eq_getElem?_getD, List.getElem?_eq_getElem hp]; rfl
    rw [← e] at h2 ⊢
    refine ⟨p, List.mem_filter.mpr ⟨List.mem_range.mpr hp, ?_⟩, rfl⟩
    simp only [Bool.not_eq_true', decide_eq_false_iff_not] at h2 ⊢
    exact fun z => h2 ((key p hp).mpr z)
  · rintro ⟨p, hp, rfl⟩
    obtain ⟨h1, h2⟩ := List.mem_filter.mp hp
    have h1 := List.mem_range.mp h1
    refine ⟨sAt_mem h1, ?_⟩
    simp only [Bool.not_eq_true', decide_eq_false_iff_not] at h2 ⊢
    exact fun z => h2 ((key p h1).mp z)
theorem r_law_next {Q : Rv → Prop} {L lim : List (List Str)} {m : Nat} (hL : LimH L m) (hn : L.Nodup) (hS : ∀ s ∈ L, s.Pairwise lO) (hlim : lim.length ≤ 3990) (hs : ∀ s ∈ leftP L (m - 2) ++ (levF L (m - 2)).map (·.2), s ∈ lim) (hsL : ∀ s ∈ L, s ∈ lim) (q : Q (.im (tupSS (nextL L (m - 2))))) : (m_law_next [.imm (tupSS L), .imm (.int m)]).run Q := by
  unfold m_law_next
  have hm := hL.mm
  have hlen := hL.len
  have hb := hL.rows (m - 2) (by omega)
  simp [ms_law_next, List.replicate_succ]
  refine r_law_flowers hL hS ?_
  simp
  have hN : ∀ r ∈ levF L (m - 2), ∀ p ∈ r.1, p < L.length := fun r hr => ((levF_mem _ r).mp hr).2.2
  refine held_out hlen (levF L (m - 2)) [] [] .any hN (fun k => by simp [hasK]) .nil fun kvs s5 hk => ?_
  rw [List.nil_append] at hk
  have hk : MkT kvs (usedS L (m - 2)) := hk
  simp
  refine ⟨by omega, ?_⟩
  refine lc_typed rowD (fun _ => true) (fun r => tupS r.2) (levF L (m - 2)) (fun r hr => by simp) ?_
  rw [List.filter_eq_self.mpr (fun _ _ => rfl)]
  refine ⟨by omega, ?_⟩
  refine lc_typed tupS (fun s => !decide (s ∈ usedS L (m - 2))) tupS L (fun s hs => ?_) ?_
  · simp [look_has, hk s]
  have e1 : (levF L (m - 2)).map (fun r => tupS r.2) = ((levF L (m - 2)).map (·.2)).map tupS := by rw [List.map_map]; rfl
  have e2 : ((levF L (m - 2)).map (·.2)).map tupS ++ (L.filter fun s => !decide (s ∈ usedS L (m - 2))).map tupS = ((levF L (m - 2)).map (·.2) ++ L.filter fun s => !decide (s ∈ usedS L (m - 2))).map tupS := by rw [List.map_append]
  rw [e1, e2]
  have hll : (L.filter fun s => !decide (s ∈ usedS L (m - 2))).length ≤ 2600 := Nat.le_trans (List.length_filter_le ..) hlen
  refine ⟨by simp; omega, ?_⟩
  refine (run_sortsetT (lim := lim) (by omega) (fun s h => ?_) ?_).1
  · rcases List.mem_append.mp h with h | h
    · exact hs s (List.mem_append_right _ h)
    · exact hsL s (List.mem_filter.mp h).1
  · rw [nextL_eq hn]
    exact q
end Law
namespace Law
open PySem Z
/-! ### levels of a run: few sets where many are asked for -/
theorem dcount {α β : Type} (R : α → β → Bool) (xs : List β) : ∀ as : List α, (as.map fun a => (xs.filter (R a)).length).sum = (xs.map fun x => (as.filter fun a => R a x).length).sum
  | [] => by
    simp only [List.map_nil, List.sum_nil, List.filter_nil, List.length_nil]
    induction xs with
    | nil => rfl
    | cons x r ih => rw [List.map_cons, List.sum_cons, ← ih]; rfl
  | a :: as => by
    rw [List.map_cons, List.sum_cons, dcount R xs as]
    induction xs with
    | nil => rfl
    | cons x r ih =>
      rw [List.map_cons, List.map_cons, List.sum_cons, List.sum_cons, ← ih, List.filter_cons, List.filter_cons]
      cases R a x <;> simp <;> omega
theorem sum_ge {α : Type} {f : α → Nat} {n : Nat} : ∀ as : List α, (∀ a ∈ as, n ≤ f a) → n * as.length ≤ (as.map f).sum
  | [], _ => by simp
  | a :: as, h => by
    have := sum_ge as fun b hb => h b (List.mem_cons_of_mem _ hb)
    have := h a (List.mem_cons_self ..)
    rw [List.map_cons, List.sum_cons, List.length_cons, Nat.mul_succ]; omega
theorem sum_le_n {α : Type} {f : α → Nat} {n : Nat} : ∀ as : List α, (∀ a ∈ as, f a ≤ n) → (as.map f).sum ≤ n * as.length
  | [], _ => by simp
  | a :: as, h => by
    have := sum_le_n as fun b hb => h b (List.mem_cons_of_mem _ hb)
    have := h a (List.mem_cons_self ..)
    rw [List.map_cons, List.sum_cons, List.length_cons, Nat.mul_succ]; omega
theorem one_le {α : Type} [DecidableEq α] {x : α} : ∀ {as : List α}, as.Nodup → (as.filter fun a => decide (x = a)).length ≤ 1
  | [], _ => by simp
  | a :: as, h => by
    rw [List.nodup_cons] at h
    by_cases e : x = a
    · rw [List.filter_cons_of_pos (by simpa using e)]
      have : as.filter (fun a => decide (x = a)) = [] := List.filter_eq_nil_iff.mpr fun b hb => by
        simp only [decide_eq_true_eq]
        intro e2; exact h.1 (by rw [← e, e2]; exact hb)
      rw [this]; simp
    · rw [List.filter_cons_of_neg (by simpa using e)]; exact one_le h.2
theorem class_le {α β : Type} [DecidableEq α] (f : β → α) {as : List α} (h : as.Nodup) (xs : List β) : (as.map fun a => (xs.filter fun x => decide (f x = a)).length).sum ≤ xs.length := by
  rw [dcount (fun a x => decide (f x = a))]
  exact Nat.le_trans (sum_le_n (n := 1) _ fun x _ => one_le h) (by omega)
section
variable {names : List Str} {L : List (List Str)}
def relB (L : List (List Str)) (k : Nat) (c : List Str) (p : Nat) : Bool := (levF L k).any fun r => decide (r.2 = c) && decide (p ∈ r.1)
theorem rel_iff {k : Nat} {c : List Str} {p : Nat} : relB L k c p = true ↔ ∃ r ∈ levF L k, r.2 = c ∧ p ∈ r.1 := by
  unfold relB
  rw [List.any_eq_true]
  simp
theorem asc_nodup {p : List Nat} (h : p.Pairwise fun a b => a < b) : p.Nodup := h.imp fun h => Nat.ne_of_lt h
theorem core_two (h : FewH names L) {k : Nat} {r : Row} (hr : r ∈ levF L k) {p b : Nat} (hp : p ∈ r.1) (hb : b ∈ r.1) (hne : b ≠ p) : meetL (sAt L p) (sAt L b) = r.2 := by
  obtain ⟨h1, h2⟩ := (levF_mem k r).mp hr
  have hs := h.srt
  obtain ⟨i, hi, rfl⟩ := List.getElem_of_mem hp
  obtain ⟨j, hj, rfl⟩ := List.getElem_of_mem hb
  have g := List.pairwise_iff_getElem.mp h2.1
  rcases Nat.lt_trichotomy i j with c | c | c
  · exact (g i j hi hj c).2
  · subst c; exact (hne rfl).elim
  · rw [meetL_comm (hs _ (sAt_mem (h2.2 _ hp))) (hs _ (sAt_mem (h2.2 _ hb)))]
    exact (g j i hj hi c).2
theorem cores_of (h : FewH names L) (h14 : L.length ≤ 14) {k : Nat} (hk : 2 ≤ k) {C : List (List Str)} (hC : C.Nodup) {p : Nat} (hp : p < L.length) : (C.filter fun c => relB L k c p).length ≤ 4 := by
  have hCn : (C.filter fun c => relB L k c p).Nodup := hC.sublist List.filter_sublist
  have h1 := class_le (fun b => meetL (sAt L p) (sAt L b)) hCn ((List.range L.length).filter fun b => !decide (b = p))
  have h2 : ((List.range L.length).filter fun b => !decide (b = p)).length ≤ 13 := by
    have e := filter_two (fun b => decide (b = p)) (List.range L.length)
    have : 1 ≤ ((List.range L.length).filter fun b => decide (b = p)).length := by
      have : p ∈ (List.range L.length).filter fun b => decide (b = p) := List.mem_filter.mpr ⟨List.mem_range.mpr hp, by simp⟩
      exact List.length_pos_of_mem this
    rw [List.length_range] at e
    omega
  have h3 := sum_ge (n := 3) (f := fun a => (((List.range L.length).filter fun b => !decide (b = p)).filter fun x => decide (meetL (sAt L p) (sAt L x) = a)).length) (C.filter fun c => relB L k c p) fun c hc => by
    obtain ⟨r, hr, rfl, hpr⟩ := rel_iff.mp (List.mem_filter.mp hc).2
    obtain ⟨g1, g2⟩ := (levF_mem k r).mp hr
    have nd := asc_nodup g2.mono
    have e := filter_two (fun b => decide (b = p)) r.1
    have l1 : (r.1.filter fun b => decide (b = p)).length ≤ 1 := by
      have := one_le (x := p) nd
      have e : (r.1.filter fun b => decide (b = p)) = r.1.filter fun b => decide (p = b) := List.filter_congr fun b _ => by rw [decide_eq_decide]; exact eq_comm
      rw [e]; exact this
    refine Nat.le_trans ?_ (ZT.len_sub (r.1.filter fun b => !decide (b = p)) _ (nd.sublist List.filter_sublist) fun b hb => ?_)
    · omega
    · obtain ⟨b1, b2⟩ := List.mem_filter.mp hb
      have hne : b ≠ p := by simpa using b2
      exact List.mem_filter.mpr ⟨List.mem_filter.mpr ⟨List.mem_range.mpr (g2.2 b b1), b2⟩, by simpa using core_two h hr hpr b1 hne⟩
  omega
theorem next_14 (h : FewH names L) (h14 : L.length ≤ 14) {k : Nat} (hk : 2 ≤ k) : (nextL L k).length ≤ 14 := by
  have hC : (ssetT ((levF L k).map (·.2))).Nodup := ltT_nodup (ssetT_lt _)
  have hcm : ∀ c, c ∈ ssetT ((levF L k).map (·.2)) ↔ ∃ r ∈ levF L k, r.2 = c := fun c => by rw [ssetT_mem, List.mem_map]
  generalize ssetT ((levF L k).map (·.2)) = C at hC hcm
  have e0 := filter_two (fun p => decide (p ∈ usedP L k)) (List.range L.length)
  rw [List.length_range] at e0
  have h1 : (nextL L k).length ≤ (leftP L k).length + C.length := by
    have := ZT.len_sub (nextL L k) (leftP L k ++ C) (ltT_nodup (ssetT_lt _)) fun s hs => by
      rcases List.mem_append.mp (ssetT_mem.mp hs) with hs | hs
      · exact List.mem_append_left _ hs
      · obtain ⟨r, hr, rfl⟩ := List.mem_map.mp hs
        exact List.mem_append_right _ ((hcm _).mpr ⟨r, hr, rfl⟩)
    rwa [List.length_append] at this
  have h2 : (leftP L k).length = ((List.range L.length).filter fun p => !decide (p ∈ usedP L k)).length := by unfold leftP; rw [List.length_map]
  have h3 := dcount (relB L k) ((List.range L.length).filter fun p => decide (p ∈ usedP L k)) C
  have h4 := sum_ge (n := 4) (f := fun c => (((List.range L.length).filter fun p => decide (p ∈ usedP L k)).filter (relB L k c)).length) C fun c hc => by
    obtain ⟨r, hr, rfl⟩ := (hcm c).mp hc
    obtain ⟨g1, g2⟩ := (levF_mem k r).mp hr
    refine Nat.le_trans (show 4 ≤ r.1.length by omega) (ZT.len_sub r.1 _ (asc_nodup g2.mono) fun p hp => ?_)
    exact List.mem_filter.mpr ⟨List.mem_filter.mpr ⟨List.mem_range.mpr (g2.2 p hp), by rw [decide_eq_true_eq]; exact List.mem_flatMap.mpr ⟨r, hr, hp⟩⟩, rel_iff.mpr ⟨r, hr, rfl, hp⟩⟩
  have h5 := sum_le_n (n := 4) (f := fun p => (C.filter fun c => relB L k c p).length) ((List.range L.length).filter fun p => decide (p ∈ usedP L k)) fun p hp => cores_of h h14 hk hC (List.mem_range.mp (List.mem_filter.mp hp).1)
  omega
theorem Run.next {m : Nat} (h : Run names m L) : Run names m (nextL L (m - 2)) :=
  ⟨h.few.next _, h.mm, fun c => next_14 h.few (h.l14 c) (by omega)⟩
/-! ### levels end soon -/
theorem next_none {L : List (List Str)} (hL : L.Pairwise ltT) {k : Nat} (h : levF L k = []) : nextL L k = L := by
  unfold nextL leftP usedP
  rw [h]
  simp only [List.flatMap_nil, List.not_mem_nil, decide_false, Bool.not_false, List.map_nil, List.append_nil]
  rw [List.filter_eq_self.mpr (fun _ _ => rfl), range_sAt]
  exact ssetT_id hL
theorem core_sub (h : FewH names L) {k : Nat} {r : Row} (hr : r ∈ levF L k) {a : Nat} (ha : a ∈ r.1) : ∀ x ∈ r.2, x ∈ sAt L a := fun x hx => by
  obtain ⟨g1, g2⟩ := (levF_mem k r).mp hr
  have : ∃ b ∈ r.1, b ≠ a := by
    match hp : r.1, g1 with
    | u :: v :: w, _ =>
      rw [hp] at g2
      have := (List.pairwise_cons.mp g2.mono).1 v (by simp)
      by_cases e : u = a
      · exact ⟨v, by simp, by omega⟩
      · exact ⟨u, by simp, e⟩
  obtain ⟨b, hb, hne⟩ := this
  have := core_two h hr ha hb hne
  rw [← this] at hx
  exact (meetL_mem.mp hx).1
theorem FlC_core {k : Nat} (h : FewH names L) {r : Row} (hr : r ∈ levF L k) : r.2.Pairwise lO := by
  obtain ⟨g1, g2⟩ := (levF_mem k r).mp hr
  exact g2.sorted h.srt (by omega)
/-- no flower of old sets has one that was in none -/
theorem old_none (h : FewH names L) {k : Nat} {r : Row} (hr : r ∈ levF (nextL L k) k) (hL : ∀ a ∈ r.1, sAt (nextL L k) a ∈ L) {a : Nat} (ha : a ∈ r.1) (hl : sAt (nextL L k) a ∈ leftP L k) : False := by
  have hN := h.next k
  obtain ⟨g1, g2⟩ := (levF_mem k r).mp hr
  have hc := FlC_core hN hr
  have hf := ((FlC_iff hN.srt hc).mp g2).2.2
  obtain ⟨p, p1, p2, p3⟩ := fl_places (T := setsAt (nextL L k) r.1) (L := L) h.srt (setsAt_nodup hN.nd g2.mono g2.2) h.nd (fun t ht => by
    obtain ⟨b, hb, rfl⟩ := List.mem_map.mp ht
    exact hL b hb) hc hf
  have hp : (p, r.2) ∈ levF L k := (levF_mem k _).mpr ⟨by unfold setsAt at p2; rw [List.length_map] at p2; exact p2.trans g1, p1⟩
  have hm : sAt (nextL L k) a ∈ setsAt L p := p3.symm.subset (List.mem_map_of_mem ha)
  obtain ⟨q, hq, e⟩ := List.mem_map.mp hm
  obtain ⟨q', hq', e'⟩ := List.mem_map.mp hl
  obtain ⟨l1, l2⟩ := List.mem_filter.mp hq'
  have : q = q' := sAt_inj h.nd (p1.2 q hq) (List.mem_range.mp l1) (e.trans e'.symm)
  subst this
  have l2 : ¬ q ∈ usedP L k := by simpa using l2
  exact l2 (List.mem_flatMap.mpr ⟨(p, r.2), hp, hq⟩)
theorem step_core (h : FewH names L) {k : Nat} {r : Row} (hr : r ∈ levF (nextL L k) k) :
    (∃ r' ∈ levF L k, r.2.length < r'.2.length) ∨ (∃ r' ∈ levF L k, r.2 = r'.2 ∧ (∀ a ∈ r'.1, sAt L a ≠ r'.2) ∧ ∃ a ∈ r.1, sAt (nextL L k) a = r.2) := by
  have hN := h.next k
  obtain ⟨g1, g2⟩ := (levF_mem k r).mp hr
  have two : ∀ a ∈ r.1, sAt (nextL L k) a ∈ leftP L k ∨ ∃ r' ∈ levF L k, r'.2 = sAt (nextL L k) a := fun a ha => by
    rcases List.mem_append.mp (ssetT_mem.mp (sAt_mem (g2.2 a ha))) with hs | hs
    · exact .inl hs
    · obtain ⟨r', hr', e⟩ := List.mem_map.mp hs
      exact .inr ⟨r', hr', e⟩
  by_cases c1 : ∃ a ∈ r.1, (∃ r' ∈ levF L k, r'.2 = sAt (nextL L k) a) ∧ sAt (nextL L k) a ≠ r.2
  · obtain ⟨a, ha, ⟨r', hr', e⟩, hne⟩ := c1
    refine .inl ⟨r', hr', ?_⟩
    rw [e]
    have hsub := core_sub hN hr ha
    have hcs := FlC_core hN hr
    have hss := hN.srt _ (sAt_mem (g2.2 a ha))
    rcases Nat.lt_or_ge r.2.length (sAt (nextL L k) a).length with c | c
    · exact c
    · exfalso
      refine hne (lt_unique hss hcs fun x => ⟨fun hx => ?_, hsub x⟩)
      -- as many names, each of the core in the set
      have m1 : (meetL (sAt (nextL L k) a) r.2).length ≤ (sAt (nextL L k) a).length := List.length_filter_le ..
      have m2 : r.2.length ≤ (meetL (sAt (nextL L k) a) r.2).length := ZT.len_sub _ _ (lt_nodup hcs) fun y hy => meetL_mem.mpr ⟨hsub y hy, hy⟩
      have m3 : (meetL (sAt (nextL L k) a) r.2).length = (sAt (nextL L k) a).length := by omega
      have := List.length_filter_eq_length_iff.mp m3 x hx
      simpa using this
  · have c1 : ∀ a ∈ r.1, (∃ r' ∈ levF L k, r'.2 = sAt (nextL L k) a) → sAt (nextL L k) a = r.2 := fun a ha hx => by
      by_cases e : sAt (nextL L k) a = r.2
      · exact e
      · exact (c1 ⟨a, ha, hx, e⟩).elim
    have ex2 : ∃ a b, a ∈ r.1 ∧ b ∈ r.1 ∧ a ≠ b := by
      match hp : r.1, g1 with
      | u :: v :: w, _ =>
        rw [hp] at g2
        have := (List.pairwise_cons.mp g2.mono).1 v (by simp)
        exact ⟨u, v, by simp, by simp, by omega⟩
    by_cases c2 : ∃ a ∈ r.1, ∃ r' ∈ levF L k, r'.2 = sAt (nextL L k) a
    · obtain ⟨a, ha, r', hr', e⟩ := c2
      have e2 := c1 a ha ⟨r', hr', e⟩
      by_cases c3 : r.2 ∈ L
      · exfalso
        have other : ∀ b ∈ r.1, b ≠ a → sAt (nextL L k) b ∈ leftP L k := fun b hb hne => by
          rcases two b hb with z | z
          · exact z
          · have e3 := c1 b hb z
            exact (hne (sAt_inj hN.nd (g2.2 b hb) (g2.2 a ha) (e3.trans e2.symm))).elim
        have hb : ∃ b ∈ r.1, b ≠ a := by
          obtain ⟨u, v, hu, hv, hne⟩ := ex2
          by_cases e4 : u = a
          · exact ⟨v, hv, fun z => hne (e4.trans z.symm)⟩
          · exact ⟨u, hu, e4⟩
        obtain ⟨b, hb, hne⟩ := hb
        refine old_none h hr (fun d hd => ?_) hb (other b hb hne)
        by_cases e4 : d = a
        · subst e4; rw [e2]; exact c3
        · exact leftP_sub _ (other d hd e4)
      · refine .inr ⟨r', hr', by rw [e, e2], fun b hb z => c3 ?_, a, ha, e2⟩
        have := sAt_mem (((levF_mem k r').mp hr').2.2 b hb)
        rw [z, e, e2] at this
        exact this
    · exfalso
      have all : ∀ a ∈ r.1, sAt (nextL L k) a ∈ leftP L k := fun a ha => by
        rcases two a ha with z | z
        · exact z
        · exact (c2 ⟨a, ha, z⟩).elim
      obtain ⟨u, v, hu, _, _⟩ := ex2
      exact old_none h hr (fun d hd => leftP_sub _ (all d hd)) hu (all u hu)
/-- what can still come at the j-th level -/
def Ends (k j : Nat) (L : List (List Str)) : Prop := ∀ r ∈ levF L k, 2 * r.2.length + j ≤ 11 ∧ ((∀ a ∈ r.1, sAt L a ≠ r.2) → 2 * r.2.length + j ≤ 10)
theorem ends_zero (h : FewH names L) (k : Nat) : Ends k 0 L := fun r hr => by
  have := h.core5 hr
  exact ⟨by omega, fun _ => by omega⟩
theorem Ends.next (h : FewH names L) {k j : Nat} (e : Ends k j L) : Ends k (j + 1) (nextL L k) := fun r hr => by
  rcases step_core h hr with ⟨r', hr', hl⟩ | ⟨r', hr', e1, e2, a, ha, e3⟩
  · have := (e r' hr').1
    exact ⟨by omega, fun _ => by omega⟩
  · have := (e r' hr').2 e2
    rw [e1]
    exact ⟨by omega, fun z => (z a ha (by rw [e3, e1])).elim⟩
theorem Ends.stop (h : FewH names L) {k : Nat} (e : Ends k 12 L) : nextL L k = L := by
  refine next_none h.lt (List.eq_nil_iff_forall_not_mem.mpr fun r hr => ?_)
  have := (e r hr).1
  omega
end
end Law
namespace Law
open PySem Z
/-- a loop over things that are all right; some slots may be left as they are -/
theorem each_loopV {α β : Type} {t : α → PyData} (P : α → Prop) {kl : List Nat} {mg : PyData → Z.Env → W Z.Env} {mb : Ms} {env : β → Z.Env} {Q : Fl × Z.Env → Prop}
    (hs : ∀ a b, P a → (mg (t a) (env b)).run fun e1 => (mb e1).run fun q => onLp q (fun e2 => ∃ b, killE kl e2 = env b) (fun _ => False) (fun _ => False)) : ∀ (as : List α) (b : β), (∀ a ∈ as, P a) → (∀ b, Q (.nx, env b)) → (loopM kl mg mb (as.map t) (env b)).run Q
  | [], b, _, q => q b
  | a :: as, b, h, q => by
    rw [List.map_cons, loop_cons]
    refine W.to (hs a b (h a (List.mem_cons_self ..))) fun e1 h1 => W.to h1 fun r hr => ?_
    obtain ⟨fl, e2⟩ := r
    cases fl with
    | nx =>
      obtain ⟨b2, hr⟩ : ∃ b, killE kl e2 = env b := hr
      show (loopM kl mg mb (as.map t) (killE kl e2)).run Q
      rw [hr]
      exact each_loopV P hs as b2 (fun x hx => h x (List.mem_cons_of_mem _ hx)) q
    | ct =>
      obtain ⟨b2, hr⟩ : ∃ b, killE kl e2 = env b := hr
      show (loopM kl mg mb (as.map t) (killE kl e2)).run Q
      rw [hr]
      exact each_loopV P hs as b2 (fun x hx => h x (List.mem_cons_of_mem _ hx)) q
    | bk => exact hr.elim
    | rt v => exact hr.elim
end Law
namespace Law
open PySem Z
/-! ### the same, of the same kinds through and through -/
def sameOk : Nat → PyData → Bool
  | 0, _ => false
  | _ + 1, .none => true
  | _ + 1, .str _ => true
  | _ + 1, .int _ => true
  | d + 1, .tuple xs => decide (xs.length ≤ 100000) && xs.all (sameOk d)
  | _ + 1, _ => false
theorem zip_self : ∀ xs : List PyData, zipD xs xs = xs.map fun x => PyData.tuple [x, x]
  | [] => rfl
  | x :: r => congrArg _ (zip_self r)
theorem r_law_same : ∀ (d : Nat) (x : PyData) {Q : Rv → Prop}, sameOk d x = true → Q (.im (.bool true)) → (m_law_same d [.imm x, .imm x]).run Q
  | 0, _, _, h, _ => by cases h
  | d + 1, x, Q, h, q => by
    rw [m_law_same_s]
    cases x with
    | none => simp [ms_law_same, List.replicate_succ]; exact q
    | str s => simp [ms_law_same, List.replicate_succ, isiD]; exact q
    | int n => simp [ms_law_same, List.replicate_succ, isiD]; exact q
    | tuple xs =>
      have h2 : (decide (xs.length ≤ 100000) && xs.all (sameOk d)) = true := h
      rw [Bool.and_eq_true, decide_eq_true_eq, List.all_eq_true] at h2
      simp [ms_law_same, List.replicate_succ, isiD]
      rw [zip_self]
      refine ⟨by simp; omega, ?_⟩
      refine lc_typed (fun x : PyData => .tuple [x, x]) (fun _ => false) (fun _ => .int 1) xs (fun x hx => ?_) ?_
      · simp
        refine r_law_same d x (h2.2 x hx) ?_
        simp
      · rw [List.filter_eq_nil_iff.mpr (fun _ _ => by simp)]
        refine fEq_D (α := List Int) (by decide) [] [] ?_
        simpa using q
    | _ => cases h
theorem same_tS {d : Nat} {s : List Str} (h : s.length ≤ 100000) : sameOk (d + 2) (tupS s) = true := by
  show (decide ((s.map PyData.str).length ≤ 100000) && (s.map PyData.str).all (sameOk (d + 1))) = true
  rw [Bool.and_eq_true, decide_eq_true_eq, List.all_eq_true]
  refine ⟨by simpa using h, fun x hx => ?_⟩
  obtain ⟨t, _, rfl⟩ := List.mem_map.mp hx
  rfl
theorem same_tSS {d : Nat} {L : List (List Str)} (h : L.length ≤ 100000) (hs : ∀ s ∈ L, s.length ≤ 100000) : sameOk (d + 3) (tupSS L) = true := by
  show (decide ((L.map tupS).length ≤ 100000) && (L.map tupS).all (sameOk (d + 2))) = true
  rw [Bool.and_eq_true, decide_eq_true_eq, List.all_eq_true]
  refine ⟨by simpa using h, fun x hx => ?_⟩
  obtain ⟨t, ht, rfl⟩ := List.mem_map.mp hx
  exact same_tS (hs t ht)
end Law
namespace Law
open PySem Z
/-! ### levels_of, and the law's own levels, run -/
def lvR (m : Nat) : Nat → Nat → List (List Str) → List (List (List Str))
  | 0, _, L => [L]
  | n + 1, b, L => if b = 0 then [L] else if nextL L (m - 2) = L then [L] else L :: lvR m n (b - 1) (nextL L (m - 2))
theorem lfree_TT (L : List (List Str)) : lfree (tupSS L) = true := by
  show lfreeAll (L.map tupS) = true
  induction L with
  | nil => rfl
  | cons s r ih =>
    rw [List.map_cons, lfreeAll_c, ih, Bool.and_true]
    exact lfree_str s
section
variable {names : List Str} {L : List (List Str)} {m : Nat}
theorem Run.r_next {Q : Rv → Prop} (h : Run names m L) (q : Q (.im (tupSS (nextL L (m - 2))))) : (m_next_level [.imm (tupSS L), .imm (.int m)]).run Q :=
  r_next_level (lim := subsB (sset names) 6) h.lim (by have := subsB_6 h.few.nm; omega) h.few.nlim q
theorem Run.r_law {Q : Rv → Prop} (h : Run names m L) (q : Q (.im (tupSS (nextL L (m - 2))))) : (m_law_next [.imm (tupSS L), .imm (.int m)]).run Q :=
  r_law_next (lim := subsB (sset names) 6) h.lim h.few.nd h.few.srt (by have := subsB_6 h.few.nm; omega) h.few.nlim (fun s hs => subB_of (h.few.srt s hs) (h.few.sub s hs) (h.few.six s hs)) q
theorem levels_loop {b0 : Nat} {s0 : Sl} {Q : Fl × Z.Env → Prop} : ∀ (n b : Nat) (L : List (List Str)) (done : List (List (List Str))), done.length + n = 12 → done.length + 1 + b = b0 → Run names m L → Ends (m - 2) done.length L →
    (∀ e, gt e 3 = .lst ((done ++ lvR m n b L).map tupSS) → Q (.nx, e)) → (∀ e, Q (.rt (.fr ((done ++ lvR m n b L).map tupSS)), e)) →
    (whileM [4] lt_levels_of_2 lb_levels_of_1 (n + 1) [s0, .imm (.int m), .imm (.int b0), .lst ((done ++ [L]).map tupSS), .any]).run Q := by
  intro n
  induction n with
  | zero =>
    intro b L done hl hb hg he q1 q2
    have hstop := Ends.stop hg.few (by rw [show done.length = 12 by omega] at he; exact he)
    have hlast : L2.atI (done.map tupSS ++ [tupSS L]) (-1) = some (tupSS L) := by rw [atI_last]; simp
    rw [while_c]
    simp
    split
    · rw [hlast]
      simp only [onSome_s]
      refine hg.r_next ?_
      simp
      refine ⟨lfree_TT _, ?_⟩
      refine fEq_SS _ _ ?_
      simp only [asB_b, run_pure]
      rw [if_pos (by simpa using hstop)]
      simpa [lvR] using q2 _
    · exact q1 _ (by simp [lvR])
  | succ n ih =>
    intro b L done hl hb hg he q1 q2
    have hlast : L2.atI (done.map tupSS ++ [tupSS L]) (-1) = some (tupSS L) := by rw [atI_last]; simp
    rw [while_c]
    simp
    by_cases c0 : b = 0
    · rw [if_neg (by omega)]
      have e : lvR m (n + 1) b L = [L] := by rw [lvR, if_pos c0]
      rw [e] at q1
      exact q1 _ (by simp)
    · rw [if_pos (by omega), hlast]
      simp only [onSome_s]
      refine hg.r_next ?_
      simp
      refine ⟨lfree_TT _, ?_⟩
      refine fEq_SS _ _ ?_
      simp only [asB_b, run_pure]
      by_cases c : nextL L (m - 2) = L
      · rw [if_pos (by simpa using c)]
        have e : lvR m (n + 1) b L = [L] := by rw [lvR, if_neg c0, if_pos c]
        rw [e] at q2
        simpa using q2 _
      · rw [if_neg (by simpa using c)]
        have e : lvR m (n + 1) b L = L :: lvR m n (b - 1) (nextL L (m - 2)) := by rw [lvR, if_neg c0, if_neg c]
        rw [e] at q1 q2
        refine ⟨by omega, ?_⟩
        have := ih (b - 1) (nextL L (m - 2)) (done ++ [L]) (by rw [List.length_append, List.length_singleton]; omega) (by rw [List.length_append, List.length_singleton]; omega) hg.next (by rw [List.length_append, List.length_singleton]; exact he.next hg.few) (fun e he => q1 e (by rw [he]; simp)) (fun e => by have := q2 e; simpa using this)
        simpa using this
theorem r_levels_of {Q : Rv → Prop} {b : Nat} (h : Run names m L) (q : Q (.fr ((lvR m 12 b L).map tupSS))) : (m_levels_of [.imm (tupSS L), .imm (.int m), .imm (.int (1 + b : Nat))]).run Q := by
  unfold m_levels_of
  simp [ms_levels_of, List.replicate_succ]
  obtain ⟨n, hn⟩ : ∃ n, n = 12 := ⟨_, rfl⟩
  rw [← hn] at q
  refine while_s (n + 1) ?_
  have key := levels_loop (names := names) (m := m) (b0 := 1 + b) (s0 := .imm (tupSS L)) (Q := fun r => onFl r (fun e1 => onLst (gt e1 3) fun d => onRet (.rt (.fr d), e1) Q) fun r => onRet r Q) n b L [] (by simp; omega) (by simp) h (ends_zero h.few _) (fun e he => ?_) (fun e => ?_)
  · simp at key ⊢
    exact key
  · simp [he]
    simpa using q
  · simpa using q
theorem due_loop {b0 : Nat} {s0 : Sl} {Q : Fl × Z.Env → Prop} : ∀ (n b : Nat) (L : List (List Str)) (done : List (List (List Str))), done.length + n = 12 → done.length + 1 + b = b0 → Run names m L → Ends (m - 2) done.length L →
    (∀ e, gt e 3 = .lst ((done ++ lvR m n b L).map tupSS) → Q (.nx, e)) →
    (whileM [] lt_law_due_2 lb_law_due_1 (n + 1) [s0, .imm (.int m), .imm (.int b0), .lst ((done ++ [L]).map tupSS), .imm (tupSS (nextL L (m - 2)))]).run Q := by
  intro n
  induction n with
  | zero =>
    intro b L done hl hb hg he q1
    have hstop := Ends.stop hg.few (by rw [show done.length = 12 by omega] at he; exact he)
    have hlast : L2.atI (done.map tupSS ++ [tupSS L]) (-1) = some (tupSS L) := by rw [atI_last]; simp
    rw [while_c]
    simp
    split
    · rw [hlast]
      simp only [onSome_s]
      refine fNe_SS _ _ ?_
      simp [hstop]
      exact q1 _ (by simp [lvR])
    · exact q1 _ (by simp [lvR])
  | succ n ih =>
    intro b L done hl hb hg he q1
    have hlast : L2.atI (done.map tupSS ++ [tupSS L]) (-1) = some (tupSS L) := by rw [atI_last]; simp
    rw [while_c]
    simp
    by_cases c0 : b = 0
    · rw [if_neg (by omega)]
      have e : lvR m (n + 1) b L = [L] := by rw [lvR, if_pos c0]
      rw [e] at q1
      exact q1 _ (by simp)
    · rw [if_pos (by omega), hlast]
      simp only [onSome_s]
      refine fNe_SS _ _ ?_
      by_cases c : nextL L (m - 2) = L
      · have e : lvR m (n + 1) b L = [L] := by rw [lvR, if_neg c0, if_pos c]
        rw [e] at q1
        simp [c]
        exact q1 _ (by simp)
      · have e : lvR m (n + 1) b L = L :: lvR m n (b - 1) (nextL L (m - 2)) := by rw [lvR, if_neg c0, if_neg c]
        rw [e] at q1
        simp [c]
        refine ⟨by omega, ?_⟩
        have e4 : L2.atI (done.map tupSS ++ [tupSS L, tupSS (nextL L (m - 2))]) (-1) = some (tupSS (nextL L (m - 2))) := by rw [atI_last]; simp
        rw [e4]
        simp only [onSome_s]
        refine hg.next.r_law ?_
        simp
        refine ⟨lfree_TT _, ?_⟩
        have := ih (b - 1) (nextL L (m - 2)) (done ++ [L]) (by rw [List.length_append, List.length_singleton]; omega) (by rw [List.length_append, List.length_singleton]; omega) hg.next (by rw [List.length_append, List.length_singleton]; exact he.next hg.few) (fun e he => q1 e (by rw [he]; simp))
        simpa using this
theorem r_law_due {Q : Rv → Prop} {b : Nat} (h : Run names m L) (q : Q (.fr ((lvR m 12 b L).map tupSS))) : (m_law_due [.imm (tupSS L), .imm (.int m), .imm (.int (1 + b : Nat))]).run Q := by
  unfold m_law_due
  simp [ms_law_due, List.replicate_succ]
  refine h.r_law ?_
  simp
  obtain ⟨n, hn⟩ : ∃ n, n = 12 := ⟨_, rfl⟩
  rw [← hn] at q
  refine while_s (n + 1) ?_
  have key := due_loop (names := names) (m := m) (b0 := 1 + b) (s0 := .imm (tupSS L)) (Q := fun r => onFl r (fun e1 => onLst (gt e1 3) fun d => onRet (.rt (.fr d), e1) Q) fun r => onRet r Q) n b L [] (by simp; omega) (by simp) h (ends_zero h.few _) (fun e he => ?_)
  · simp at key ⊢
    exact key
  · simp [he]
    simpa using q
theorem lvR_run : ∀ (n b : Nat) (L : List (List Str)), Run names m L → (lvR m n b L).length ≤ n + 1 ∧ ∀ x ∈ lvR m n b L, Run names m x
  | 0, b, L, h => by
    refine ⟨by simp [lvR], fun x hx => ?_⟩
    have : x = L := by simpa [lvR] using hx
    rw [this]; exact h
  | n + 1, b, L, h => by
    have one : ([L] : List (List (List Str))).length ≤ n + 1 + 1 ∧ ∀ x ∈ [L], Run names m x := ⟨by simp, fun x hx => by rw [List.mem_singleton.mp hx]; exact h⟩
    rw [lvR]
    split
    · exact one
    · split
      · exact one
      · obtain ⟨h1, h2⟩ := lvR_run n (b - 1) _ h.next
        refine ⟨by rw [List.length_cons]; omega, fun x hx => ?_⟩
        rcases List.mem_cons.mp hx with rfl | hx
        · exact h
        · exact h2 x hx
theorem zip_same {α : Type} (t : α → PyData) (xs : List α) : zipD (xs.map t) (xs.map t) = xs.map fun x => PyData.tuple [t x, t x] := by rw [zip_self, List.map_map]; rfl
theorem r_law_right {Q : Rv → Prop} {Ls : List (List (List Str))} (h : Ls.length ≤ 100) (hr : ∀ x ∈ Ls, Run names m x) (q : Q (.im (.bool true))) : (m_law_right [.imm (.list (Ls.map tupSS)), .imm (.list (Ls.map tupSS))]).run Q := by
  unfold m_law_right
  simp [ms_law_right, List.replicate_succ, isiD]
  rw [zip_same]
  refine ⟨by simp; omega, ?_⟩
  refine lc_typed (fun x => .tuple [tupSS x, tupSS x]) (fun _ => false) (fun _ => .int 1) Ls (fun x hx => ?_) ?_
  · simp
    have hx := hr x hx
    have l1 := hx.few.len
    refine r_law_same 8 _ (same_tSS (d := 5) (by omega) fun s hs => by have := hx.few.six s hs; omega) ?_
    simp
  · rw [List.filter_eq_nil_iff.mpr (fun _ _ => by simp)]
    refine fEq_D (α := List Int) (by decide) [] [] ?_
    simpa using q
end
end Law
namespace Law
open PySem Z
theorem r_setI0 {e : Z.Env} {ds : List PyData} {x : PyData} {i : Nat} {m : Z.Env → W PyData} {Q : Fl × Z.Env → Prop} (h : gt e i = .lst ds) (hd : ds ≠ []) (q : (m e).run fun d => Q (.nx, e.set i (.lst (ds.set 0 d)))) : (sSetI i (mC (.int 0)) m e).run Q := by
  unfold sSetI
  rw [h]
  refine (m e).mono (fun d hd2 => ?_) q
  have : L2.ixN ds.length (0 : Int) = some 0 := by
    unfold L2.ixN
    rw [if_pos (by omega)]
    have := List.length_pos_iff.mpr hd
    simp; omega
  show W.run (match L2.ixN ds.length (0 : Int) with
    | some j => pure (.nx, e.set i (.lst (ds.set j d)))
    | none => W.fail) Q
  rw [this]
  exact hd2
theorem lv_eq (M N : List (List (List Str))) {Q : PyData → Prop} (q : Q (.bool (decide (M = N)))) : (fEq (.list (M.map tupSS)) (.list (N.map tupSS))).run Q := by
  have em : ∀ M : List (List (List Str)), PyData.list (M.map tupSS) = tD (M.map fun L => PySem.W.Tup.mk (L.map PySem.W.Tup.mk)) := fun M => by
    show _ = PyData.list _
    rw [List.map_map]
    congr 1
    refine List.map_congr_left fun L _ => ?_
    show tupSS L = tD (PySem.W.Tup.mk (L.map PySem.W.Tup.mk))
    rw [tupSS, map_tup]; rfl
  rw [em, em]
  refine fEq_D (α := List (PySem.W.Tup (PySem.W.Tup Str))) (by decide) _ _ ?_
  have inj : ∀ A B : List (List Str), PySem.W.Tup.mk (A.map PySem.W.Tup.mk) = PySem.W.Tup.mk (B.map PySem.W.Tup.mk) → A = B := fun A B e => by
    have := congrArg (fun z : PySem.W.Tup (PySem.W.Tup Str) => z.items.map (·.items)) e
    simp only [items_mk] at this
    exact this
  have e2 : decide ((M.map fun L => PySem.W.Tup.mk (L.map PySem.W.Tup.mk)) = (N.map fun L => PySem.W.Tup.mk (L.map PySem.W.Tup.mk))) = decide (M = N) := by
    refine decide_eq_decide.mpr ⟨fun e => ?_, fun e => by rw [e]⟩
    exact List.map_inj_right (fun A B e => inj A B e) |>.mp e
  rw [e2]
  exact q
theorem run_of {names : List Str} {L : List (List Str)} (hn : names.length ≤ 12) (h : ∀ s ∈ L, SetIn names s) (hl : L.Pairwise ltT) (h14 : L.length ≤ 14) {m : Nat} (hm : 2 ≤ m ∧ m ≤ 6) : Run names m L :=
  ⟨⟨hn, hl, fun s hs => (h s hs).1, fun s hs => (h s hs).2.2, fun s hs => (h s hs).2.1, Nat.le_trans (List.length_filter_le ..) h14⟩, hm, fun _ => h14⟩
/-- what a turn asks of its collection -/
def tailB : Ms := (sSeq (sAsg 7 (mCall 3 m_law_due (aCons (mVar 4) (aCons (mVar 5) (aCons (mVar 6) aNil)))))
    (sSeq (sAsgL 8 (mCallL 3 m_levels_of (aCons (mVar 4) (aCons (mVar 5) (aCons (mVar 6) aNil)))))
    (sSeq (sIf (mLendT (mNot (mTruth (mCall 2 m_law_right (aCons (mVar 8) (aCons (mVar 7) aNil)))))) (sRet (mC (.bool false))) sNil)
    (sSeq (sApp 8 (mTup mNil))
    (sSeq (sSetI 8 (mC (.int 0)) (mTup mNil))
    (sIf (mNot (mTruth (mCall 2 m_law_right (aCons (mCall 3 m_levels_of (aCons (mVar 4) (aCons (mVar 5) (aCons (mVar 6) aNil)))) (aCons (mVar 7) aNil))))) (sRet (mC (.bool false))) sNil))))))
theorem r_tail {names : List Str} {L : List (List Str)} {m b : Nat} (h : Run names m L) {s0 s1 s2 s3 : Sl} {most : Int} (hb : most = ((1 + b : Nat) : Int)) {Q : Fl × Z.Env → Prop} (q : ∀ s7 s8, Q (.nx, [s0, s1, s2, s3, .imm (tupSS L), .imm (.int m), .imm (.int most), s7, s8])) :
    (tailB [s0, s1, s2, s3, .imm (tupSS L), .imm (.int m), .imm (.int most), .any, .any]).run Q := by
  obtain ⟨h1, h2⟩ := lvR_run 12 b L h
  unfold tailB
  simp
  rw [hb]
  refine r_law_due h ?_
  simp only [asIm_fr, run_pure]
  refine r_levels_of h ?_
  simp only [asFr_fr, run_pure]
  refine r_law_right (by omega) h2 ?_
  simp only [asIm_im, run_pure, truthD_b, if_true]
  refine ⟨by rw [List.length_map]; omega, ?_⟩
  refine r_setI0 (ds := (lvR m 12 b L).map tupSS ++ [PyData.tuple []]) (x := .none) rfl (by simp) ?_
  simp
  rw [show ((1 : Int) + (b : Int)) = ((1 + b : Nat) : Int) by omega]
  refine r_levels_of h ?_
  simp only [asIm_fr, run_pure]
  refine r_law_right (by omega) h2 ?_
  simp only [asIm_im, run_pure, truthD_b, if_true]
  have := q (.imm (.list ((lvR m 12 b L).map tupSS))) (.lst (((lvR m 12 b L).map tupSS ++ [PyData.tuple []]).set 0 (.tuple [])))
  rw [hb] at this
  exact this
theorem lb_eq (e : Z.Env) (Q : Fl × Z.Env → Prop) : (lb_law_1 e).run Q = ((sSeq (sAsg 3 (mCB fInt1 (mCons (mAndV (m2 fEq (mVar 2) (mC (.int 2))) (m2 fEq (mCall 2 m_law_draw (aOpq 1 (aCons (mC (.int 4)) aNil))) (mC (.int 0)))) mNil)))
        (sSeq (sAsg 4 (mCall 3 m_law_sets (aOpq 1 (aCons (m2 fIx (mFrz (mLst (mCons (mC (.int 5)) (mCons (mC (.int 7)) (mCons (mC (.int 8)) (mCons (mC (.int 14)) mNil)))))) (m2 fAdd (mVar 2) (mVar 3))) (aCons (m2 fAdd (mC (.int 8)) (m2 fMul (mC (.int 4)) (mVar 3))) aNil)))))
        (sSeq (sAsg 5 (m2 fIx (mFrz (mLst (mCons (mC (.int 2)) (mCons (mC (.int 3)) (mCons (m2 fAdd (mC (.int 2)) (mCall 2 m_law_draw (aOpq 1 (aCons (mC (.int 5)) aNil)))) mNil))))) (mCall 2 m_law_draw (aOpq 1 (aCons (mC (.int 3)) aNil)))))
        (sSeq (sAsg 6 (m2 fIx (mFrz (mLst (mCons (m2 fAdd (mC (.int 1)) (mCall 2 m_law_draw (aOpq 1 (aCons (mC (.int 8)) aNil)))) (mCons (mC (.int 8)) (mCons (m2 fAdd (mC (.int 9)) (m2 fMul (mCall 2 m_law_draw (aOpq 1 (aCons (m2 fPow (mC (.int 10)) (mC (.int 6))) aNil))) (m2 fPow (mC (.int 10)) (mC (.int 5))))) mNil))))) (mCall 2 m_law_draw (aOpq 1 (aCons (mC (.int 3)) aNil))))) tailB)))) e).run Q := by unfold lb_law_1 tailB; with_reducible rfl
theorem at_l {ds : List PyData} {i : Int} {P : PyData → Prop} (h0 : 0 ≤ i) (h1 : i < ds.length) (h : ∀ d ∈ ds, P d) : onSome (L2.atI ds i) P := by
  obtain ⟨j, x, rfl, e1, e2⟩ := at_some (t := fun d : PyData => d) (xs := ds) h0 h1
  rw [List.map_id'] at e2
  rw [e2]
  exact h x (List.mem_of_getElem? e1)
theorem cases3 {i : Nat} (hi : i < 3) {w : Nat} (hw : w = 0 ∨ (w = 1 ∧ i = 2)) {P : PyData → Prop} (h : ∀ y : Nat, y ≤ 14 → P (.int y)) : onSome (L2.atI [PyData.int 5, PyData.int 7, PyData.int 8, PyData.int 14] ((i : Int) + (w : Int))) P :=
  at_l (by omega) (by simp; omega) fun d hd => by
    simp only [List.mem_cons, List.not_mem_nil, or_false] at hd
    rcases hd with rfl | rfl | rfl | rfl
    · exact h 5 (by decide)
    · exact h 7 (by decide)
    · exact h 8 (by decide)
    · exact h 14 (by decide)
theorem law_plain (ns : List Int) (h : ns.length ≤ 63) : (ms_law ([.imm (.list (ns.map PyData.int)), .opq 0] ++ List.replicate 7 .any)).run fun r => r.1 = .rt (.im (.bool true)) := by
  simp [ms_law, List.replicate_succ, -lb_law_1_r]
  refine ⟨by rw [rgD_len]; decide, ?_⟩
  rw [rg_nat]
  refine each_loop (t := fun i : Nat => PyData.int (i : Int)) (fun i => i < 3) (fun i hi => ?_) (List.range 3) (fun i hi => List.mem_range.mp hi) ?_
  · simp only [r_nName, lb_eq]
    refine seq_any (env := fun w : Nat => [.imm (.list (ns.map PyData.int)), .opq 0, .imm (.int i), .imm (.int w), .any, .any, .any, .any, .any]) (P := fun w => w = 0 ∨ (w = 1 ∧ i = 2)) ?_ fun w hw => ?_
    · simp
      intro hi2 x x0 x1
      by_cases c : x = 0
      · exact .inr ⟨1, ⟨rfl, by omega⟩, by rw [if_pos c]; rfl⟩
      · exact .inl c
    refine seq_any (env := fun L : List (List Str) => [.imm (.list (ns.map PyData.int)), .opq 0, .imm (.int i), .imm (.int w), .imm (tupSS L), .any, .any, .any, .any]) (P := fun L => ∃ names : List Str, names.length ≤ 12 ∧ (∀ s ∈ L, SetIn names s) ∧ L.Pairwise ltT ∧ L.length ≤ 14) ?_ fun L hL => ?_
    · simp
      refine cases3 hi hw fun y hy => ?_
      refine ⟨.inl (.inl (by decide)), ?_⟩
      rw [show ((8 : Int) + 4 * (w : Int)) = ((8 + 4 * w : Nat) : Int) by omega]
      refine r_law_sets (by omega) (by omega) fun names L h1 h2 h3 h4 => ?_
      simp
      exact ⟨L, ⟨names, by omega, h3, h4, by omega⟩, rfl⟩
    obtain ⟨names, h1, h2, h3, h4⟩ := hL
    refine seq_any (env := fun m : Nat => [.imm (.list (ns.map PyData.int)), .opq 0, .imm (.int i), .imm (.int w), .imm (tupSS L), .imm (.int m), .any, .any, .any]) (P := fun m => 2 ≤ m ∧ m ≤ 6) ?_ fun m hm => ?_
    · simp
      intro x x0 x1 y y0 y1
      refine at_l y0 (by simpa using y1) fun d hd => ?_
      simp only [List.mem_cons, List.not_mem_nil, or_false] at hd
      rcases hd with rfl | rfl | rfl
      · exact ⟨2, by decide, rfl⟩
      · exact ⟨3, by decide, rfl⟩
      · obtain ⟨x, rfl⟩ := Int.eq_ofNat_of_zero_le x0
        exact ⟨2 + x, by omega, by rw [show (((2 + x : Nat)) : Int) = 2 + (x : Int) by omega]⟩
    refine seq_any (env := fun b : Nat => [.imm (.list (ns.map PyData.int)), .opq 0, .imm (.int i), .imm (.int w), .imm (tupSS L), .imm (.int m), .imm (.int ((1 + b : Nat) : Int)), .any, .any]) (P := fun _ => True) ?_ fun b _ => ?_
    · simp
      intro x x0 x1
      refine ⟨⟨by decide, by decide, by decide⟩, fun y y0 y1 => ⟨⟨by decide, by decide, by decide⟩, .inl (.inr (by decide)), fun z z0 z1 => ?_⟩⟩
      obtain ⟨x, rfl⟩ := Int.eq_ofNat_of_zero_le x0
      obtain ⟨y, rfl⟩ := Int.eq_ofNat_of_zero_le y0
      refine at_l z0 (by simpa using z1) fun d hd => ?_
      simp only [List.mem_cons, List.not_mem_nil, or_false] at hd
      rcases hd with rfl | rfl | rfl
      · exact ⟨x, rfl⟩
      · exact ⟨7, rfl⟩
      · exact ⟨8 + y * 100000, by rw [show ((1 : Int) + ((8 + y * 100000 : Nat) : Int)) = 9 + (y : Int) * 100000 by omega]⟩
    refine r_tail (run_of h1 h2 h3 h4 hm) rfl fun s7 s8 => ?_
    simp
  · simp
    have q1 := fun Q => @r_levels_of [] [] 2 Q 4 (run_of (names := []) (by decide) (fun s h => by cases h) .nil (by decide) (by decide))
    rw [show ((2 : Nat) : Int) = 2 from rfl, show ((1 + 4 : Nat) : Int) = 5 from rfl] at q1
    refine q1 _ ?_
    have e1 : lvR 2 12 4 [] = [[]] := by decide +kernel
    rw [e1]
    simp only [asIm_fr, run_pure]
    refine lv_eq [[]] [[]] ?_
    simp
    have q2 := fun Q => @r_levels_of ["a", "b"] [["a"], ["b"]] 2 Q 4 (run_of (names := ["a", "b"]) (by decide) (fun s hs => by simp at hs; rcases hs with rfl | rfl <;> exact ⟨by simp, by decide, by simp⟩) (by decide +kernel) (by decide) (by decide))
    rw [show ((2 : Nat) : Int) = 2 from rfl, show ((1 + 4 : Nat) : Int) = 5 from rfl] at q2
    refine q2 _ ?_
    have e2 : lvR 2 12 4 [["a"], ["b"]] = ([[["a"], ["b"]], [[]]] : List (List (List Str))) := by decide +kernel
    rw [e2]
    simp only [asIm_fr, run_pure]
    refine lv_eq ([[["a"], ["b"]], [[]]] : List (List (List Str))) ([[["a"], ["b"]], [[]]] : List (List (List Str))) ?_
    simp
end Law
namespace Law
open PySem PySem.Spec PyProof.Rows L2 Z
def topS (i : Nat) : Stmt := PySem.Challenge.pw_corepetals_k70_levels_told.main.body.getD i (.Pass ⟨0, 0, 0, 0⟩)
abbrev st_law_deck : Stmt := topS 10
abbrev N_law_deck : List Str := ["script", "great", "mixed", "cell"]
theorem sc_law_deck : FnScope N_law_deck ["script"] (defScope st_law_deck) := ⟨rfl, rfl, rfl, by decide +kernel, rfl, by decide +kernel, by decide +kernel⟩
abbrev st_law_draw : Stmt := topS 11
abbrev N_law_draw : List Str := ["deck", "most", "found", "turn", "one"]
theorem sc_law_draw : FnScope N_law_draw ["deck", "most"] (defScope st_law_draw) := ⟨rfl, rfl, rfl, by decide +kernel, rfl, by decide +kernel, by decide +kernel⟩
abbrev st_law_names : Stmt := topS 12
abbrev N_law_names : List Str := ["deck", "many", "letters", "spare", "begin", "near", "place", "alike", "k", "sign"]
theorem sc_law_names : FnScope N_law_names ["deck", "many"] (defScope st_law_names) := ⟨rfl, rfl, rfl, by decide +kernel, rfl, by decide +kernel, by decide +kernel⟩
abbrev st_law_sets : Stmt := topS 13
abbrev N_law_sets : List Str := ["deck", "most", "wide", "names", "kind", "core", "parts", "found", "k", "own", "name", "at"]
theorem sc_law_sets : FnScope N_law_sets ["deck", "most", "wide"] (defScope st_law_sets) := ⟨rfl, rfl, rfl, by decide +kernel, rfl, by decide +kernel, by decide +kernel⟩
abbrev st_law_meet : Stmt := topS 15
abbrev N_law_meet : List Str := ["one", "other", "name"]
theorem sc_law_meet : FnScope N_law_meet ["one", "other"] (defScope st_law_meet) := ⟨rfl, rfl, rfl, by decide +kernel, rfl, by decide +kernel, by decide +kernel⟩
abbrev st_law_flowers : Stmt := topS 16
abbrev N_law_flowers : List Str := ["sets", "many", "found", "first", "one", "second", "core", "rows", "turn", "longer", "row", "taken", "more", "left", "good", "name"]
theorem sc_law_flowers : FnScope N_law_flowers ["sets", "many"] (defScope st_law_flowers) := ⟨rfl, rfl, rfl, by decide +kernel, rfl, by decide +kernel, by decide +kernel⟩
abbrev st_law_next : Stmt := topS 17
abbrev N_law_next : List Str := ["sets", "many", "flowers", "held", "row", "core", "place", "one"]
theorem sc_law_next : FnScope N_law_next ["sets", "many"] (defScope st_law_next) := ⟨rfl, rfl, rfl, by decide +kernel, rfl, by decide +kernel, by decide +kernel⟩
abbrev st_law_due : Stmt := topS 18
abbrev N_law_due : List Str := ["sets", "many", "most", "found", "more"]
theorem sc_law_due : FnScope N_law_due ["sets", "many", "most"] (defScope st_law_due) := ⟨rfl, rfl, rfl, by decide +kernel, rfl, by decide +kernel, by decide +kernel⟩
abbrev st_meet : Stmt := topS 1
abbrev N_meet : List Str := ["one", "other", "name"]
theorem sc_meet : FnScope N_meet ["one", "other"] (defScope st_meet) := ⟨rfl, rfl, rfl, by decide +kernel, rfl, by decide +kernel, by decide +kernel⟩
abbrev st_begun : Stmt := topS 2
abbrev N_begun : List Str := ["sets", "found", "at", "one", "beside"]
theorem sc_begun : FnScope N_begun ["sets"] (defScope st_begun) := ⟨rfl, rfl, rfl, by decide +kernel, rfl, by decide +kernel, by decide +kernel⟩
abbrev st_fits : Stmt := topS 3
abbrev N_fits : List Str := ["sets", "places", "core", "more", "at"]
theorem sc_fits : FnScope N_fits ["sets", "places", "core", "more"] (defScope st_fits) := ⟨rfl, rfl, rfl, by decide +kernel, rfl, by decide +kernel, by decide +kernel⟩
abbrev st_grown : Stmt := topS 4
abbrev N_grown : List Str := ["sets", "flowers", "found", "places", "core", "more"]
theorem sc_grown : FnScope N_grown ["sets", "flowers"] (defScope st_grown) := ⟨rfl, rfl, rfl, by decide +kernel, rfl, by decide +kernel, by decide +kernel⟩
abbrev st_flowers_of : Stmt := topS 5
abbrev N_flowers_of : List Str := ["sets", "many", "found", "more"]
theorem sc_flowers_of : FnScope N_flowers_of ["sets", "many"] (defScope st_flowers_of) := ⟨rfl, rfl, rfl, by decide +kernel, rfl, by decide +kernel, by decide +kernel⟩
abbrev st_next_level : Stmt := topS 7
abbrev N_next_level : List Str := ["sets", "many", "flowers", "within", "places", "core", "place", "left", "one"]
theorem sc_next_level : FnScope N_next_level ["sets", "many"] (defScope st_next_level) := ⟨rfl, rfl, rfl, by decide +kernel, rfl, by decide +kernel, by decide +kernel⟩
abbrev st_levels_of : Stmt := topS 8
abbrev N_levels_of : List Str := ["sets", "many", "most", "found", "more"]
theorem sc_levels_of : FnScope N_levels_of ["sets", "many", "most"] (defScope st_levels_of) := ⟨rfl, rfl, rfl, by decide +kernel, rfl, by decide +kernel, by decide +kernel⟩
abbrev st_law_same : Stmt := topS 14
abbrev N_law_same : List Str := ["found", "due", "one", "other"]
theorem sc_law_same : FnScope N_law_same ["found", "due"] (defScope st_law_same) := ⟨rfl, rfl, rfl, by decide +kernel, rfl, by decide +kernel, by decide +kernel⟩
abbrev st_law_right : Stmt := topS 19
abbrev N_law_right : List Str := ["found", "due", "one", "other"]
theorem sc_law_right : FnScope N_law_right ["found", "due"] (defScope st_law_right) := ⟨rfl, rfl, rfl, by decide +kernel, rfl, by decide +kernel, by decide +kernel⟩
abbrev st_law : Stmt := topS 20
abbrev N_law : List Str := ["script", "deck", "turn", "wide", "sets", "many", "most", "due", "found"]
theorem sc_law : FnScope N_law ["script"] (defScope st_law) := ⟨rfl, rfl, rfl, by decide +kernel, rfl, by decide +kernel, by decide +kernel⟩
structure Facts (K : PySem.W.Frag) (mg : Str → Option Value) where
  ad_law_deck : Addr
  fd_law_deck : FuncData
  F_law_deck : Fun K "_law_deck" "_law_deck" st_law_deck ad_law_deck fd_law_deck
  g_law_deck : mg "_law_deck" = some (.ref ad_law_deck)
  b_law_deck : Binds K fd_law_deck ["script"] []
  ad_law_draw : Addr
  fd_law_draw : FuncData
  F_law_draw : Fun K "_law_draw" "_law_draw" st_law_draw ad_law_draw fd_law_draw
  g_law_draw : mg "_law_draw" = some (.ref ad_law_draw)
  b_law_draw : Binds K fd_law_draw ["deck", "most"] []
  ad_law_names : Addr
  fd_law_names : FuncData
  F_law_names : Fun K "_law_names" "_law_names" st_law_names ad_law_names fd_law_names
  g_law_names : mg "_law_names" = some (.ref ad_law_names)
  b_law_names : Binds K fd_law_names ["deck", "many"] []
  ad_law_sets : Addr
  fd_law_sets : FuncData
  F_law_sets : Fun K "_law_sets" "_law_sets" st_law_sets ad_law_sets fd_law_sets
  g_law_sets : mg "_law_sets" = some (.ref ad_law_sets)
  b_law_sets : Binds K fd_law_sets ["deck", "most", "wide"] []
  ad_law_meet : Addr
  fd_law_meet : FuncData
  F_law_meet : Fun K "_law_meet" "_law_meet" st_law_meet ad_law_meet fd_law_meet
  g_law_meet : mg "_law_meet" = some (.ref ad_law_meet)
  b_law_meet : Binds K fd_law_meet ["one", "other"] []
  ad_law_flowers : Addr
  fd_law_flowers : FuncData
  F_law_flowers : Fun K "_law_flowers" "_law_flowers" st_law_flowers ad_law_flowers fd_law_flowers
  g_law_flowers : mg "_law_flowers" = some (.ref ad_law_flowers)
  b_law_flowers : Binds K fd_law_flowers ["sets", "many"] []
  ad_law_next : Addr
  fd_law_next : FuncData
  F_law_next : Fun K "_law_next" "_law_next" st_law_next ad_law_next fd_law_next
  g_law_next : mg "_law_next" = some (.ref ad_law_next)
  b_law_next : Binds K fd_law_next ["sets", "many"] []
  ad_law_due : Addr
  fd_law_due : FuncData
  F_law_due : Fun K "_law_due" "_law_due" st_law_due ad_law_due fd_law_due
  g_law_due : mg "_law_due" = some (.ref ad_law_due)
  b_law_due : Binds K fd_law_due ["sets", "many", "most"] []
  ad_meet : Addr
  fd_meet : FuncData
  F_meet : Fun K "meet" "meet" st_meet ad_meet fd_meet
  g_meet : mg "meet" = some (.ref ad_meet)
  b_meet : Binds K fd_meet ["one", "other"] []
  ad_begun : Addr
  fd_begun : FuncData
  F_begun : Fun K "begun" "begun" st_begun ad_begun fd_begun
  g_begun : mg "begun" = some (.ref ad_begun)
  b_begun : Binds K fd_begun ["sets"] []
  ad_fits : Addr
  fd_fits : FuncData
  F_fits : Fun K "fits" "fits" st_fits ad_fits fd_fits
  g_fits : mg "fits" = some (.ref ad_fits)
  b_fits : Binds K fd_fits ["sets", "places", "core", "more"] []
  ad_grown : Addr
  fd_grown : FuncData
  F_grown : Fun K "grown" "grown" st_grown ad_grown fd_grown
  g_grown : mg "grown" = some (.ref ad_grown)
  b_grown : Binds K fd_grown ["sets", "flowers"] []
  ad_flowers_of : Addr
  fd_flowers_of : FuncData
  F_flowers_of : Fun K "flowers_of" "flowers_of" st_flowers_of ad_flowers_of fd_flowers_of
  g_flowers_of : mg "flowers_of" = some (.ref ad_flowers_of)
  b_flowers_of : Binds K fd_flowers_of ["sets", "many"] []
  ad_next_level : Addr
  fd_next_level : FuncData
  F_next_level : Fun K "next_level" "next_level" st_next_level ad_next_level fd_next_level
  g_next_level : mg "next_level" = some (.ref ad_next_level)
  b_next_level : Binds K fd_next_level ["sets", "many"] []
  ad_levels_of : Addr
  fd_levels_of : FuncData
  F_levels_of : Fun K "levels_of" "levels_of" st_levels_of ad_levels_of fd_levels_of
  g_levels_of : mg "levels_of" = some (.ref ad_levels_of)
  b_levels_of : Binds K fd_levels_of ["sets", "many", "most"] []
  ad_law_same : Addr
  fd_law_same : FuncData
  F_law_same : Fun K "_law_same" "_law_same" st_law_same ad_law_same fd_law_same
  g_law_same : mg "_law_same" = some (.ref ad_law_same)
  b_law_same : Binds K fd_law_same ["found", "due"] []
  ad_law_right : Addr
  fd_law_right : FuncData
  F_law_right : Fun K "_law_right" "_law_right" st_law_right ad_law_right fd_law_right
  g_law_right : mg "_law_right" = some (.ref ad_law_right)
  b_law_right : Binds K fd_law_right ["found", "due"] []
  ad_law : Addr
  fd_law : FuncData
  F_law : Fun K "law" "law" st_law ad_law fd_law
  g_law : mg "law" = some (.ref ad_law)
  b_law : Binds K fd_law ["script"] []
  n_abs : mg "abs" = none
  n_bool : mg "bool" = none
  n_enumerate : mg "enumerate" = none
  n_int : mg "int" = none
  n_isinstance : mg "isinstance" = none
  n_len : mg "len" = none
  n_list : mg "list" = none
  n_range : mg "range" = none
  n_set : mg "set" = none
  n_sorted : mg "sorted" = none
  n_str : mg "str" = none
  n_tuple : mg "tuple" = none
  n_zip : mg "zip" = none
section
variable {P : Program} {w : World} {K : PySem.W.Frag} {mg : Str → Option Value} {base : Heap}
theorem ok_law_deck [PoC] (T : Facts K mg) : FnOk P w K mg base CX0 2 T.ad_law_deck T.fd_law_deck ["script"] (spF K 1 m_law_deck) :=
  T.F_law_deck.ok sc_law_deck (fun _ _ _ _ h => spF_len h) (fun cdv A outer s H vs Q E hr h => ⟨_, (pss_cons (ps_set (i := 1) sc_law_deck.nd rfl (by first | exact Or.inl rfl | exact Or.inr rfl) pe_int)
    (pss_cons (ps_set (i := 2) sc_law_deck.nd rfl (by first | exact Or.inl rfl | exact Or.inr rfl) (pe_op op_addZ (pe_op op_mulZ pe_int (pe_callB call_len (by rfl) T.n_len (by decide +kernel) (pa_cons (pv 0) pa_nil))) pe_int))
    (pss_cons (ps_for PassesOwn.never rfl (pi_seqZ (pe_slice sl_z (pv 0) po_none (po_some pe_int))) (pg_name (i := 3) sc_law_deck.nd rfl (by first | exact Or.inl rfl | exact Or.inr rfl)) (pss_one (ps_if (pt_cmpR op_ge (pe_callB call_abs (by rfl) T.n_abs (by decide +kernel) (pa_cons (pv 3) pa_nil)) (pe_op op_pow pe_int pe_int) (nomark _)) (pss_one (ps_set (i := 1) sc_law_deck.nd rfl (by first | exact Or.inl rfl | exact Or.inr rfl) (pe_op op_addZ (pe_op op_shlW (pv 1) pe_int) (pe_callB call_abs (by rfl) T.n_abs (by decide +kernel) (pa_cons (pv 3) pa_nil))))) (pss_one (ps_set (i := 2) sc_law_deck.nd rfl (by first | exact Or.inl rfl | exact Or.inr rfl) (pe_op op_mod (pe_op op_addZ (pe_op op_mulZ (pv 2) pe_int) (pv 3)) pe_int))))))
    (pss_one (ps_ret (pe_lst (pa_cons (pv 1) (pa_cons (pv 2) (pa_cons pe_int pa_nil))))))))),
  fn_body (N := N_law_deck) (n := 1) (k := 3) (ms := ms_law_deck) (tjs_seq (tjs_asg tj_int)
    (tjs_seq (tjs_asg (tj_op oj_add (tj_op oj_mul tj_int (tj_cb cj_len (tjd_cons tj_var tjd_nil))) tj_int))
    (tjs_seq (tjs_for (kl := [3]) (tji_seq (tj_sl tj_var tjo_none (tjo_some tj_int))) tjg_name (tjs_if (tjt_test (tj_op oj_ge (tj_cb cj_abs (tjd_cons tj_var tjd_nil)) (tj_op oj_pow tj_int tj_int))) (tjs_asg (tj_op oj_add (tj_op oj_shlW tj_var tj_int) (tj_cb cj_abs (tjd_cons tj_var tjd_nil)))) (tjs_asg (tj_op oj_mod (tj_op oj_add (tj_op oj_mul tj_var tj_int) tj_var) tj_int))))
    (tjs_retL (tjl_lst (tjd_cons tj_var (tjd_cons tj_var (tjd_cons tj_int tjd_nil)))))))) rfl h⟩)
theorem ok_law_draw [PoC] [FaC] (hP : DrawP K) (T : Facts K mg) : FnOk P w K mg base CX0 2 T.ad_law_draw T.fd_law_draw ["deck", "most"] (spFN 1 K 2 m_law_draw) :=
  T.F_law_draw.ok sc_law_draw (fun _ _ _ _ h => spFN_len h) (fun cdv A outer s H vs Q E hr h => ⟨_, (pss_cons (ps_asg (pe_op op_addZ (pe_ix ix_seq (pv 0) pe_int (fun _ _ => rfl)) pe_int) (pg_sub (pv 0) pe_int set_list))
    (pss_cons (ps_if (pt_cmpR op_gtZ (pe_ix ix_seq (pv 0) pe_int (fun _ _ => rfl)) pe_int (nomark _)) (pss_cons (ps_set (i := 2) sc_law_draw.nd rfl (by first | exact Or.inl rfl | exact Or.inr rfl) (pe_op op_mod (pe_ix ix_seq (pv 0) pe_int (fun _ _ => rfl)) (pv 1)))
    (pss_cons (ps_asg (pe_op op_fdivW (pe_ix ix_seq (pv 0) pe_int (fun _ _ => rfl)) (pv 1)) (pg_sub (pv 0) pe_int set_list))
    (pss_one (ps_ret (pv 2))))) pss_nil)
    (pss_cons (ps_set (i := 3) sc_law_draw.nd rfl (by first | exact Or.inl rfl | exact Or.inr rfl) (pe_ix ix_seq (pv 0) pe_int (fun _ _ => rfl)))
    (pss_cons (ps_set (i := 4) sc_law_draw.nd rfl (by first | exact Or.inl rfl | exact Or.inr rfl) (pe_op op_mod (pe_op op_addZ (pe_op op_addZ (pe_ix ix_seq (pv 0) pe_int (fun _ _ => rfl)) (pe_op op_mulZ (pe_op op_mulZ pe_int (pv 3)) (pv 3))) (pe_op op_mulZ pe_int (pv 3))) pe_int))
    (pss_cons (ps_set (i := 4) sc_law_draw.nd rfl (by first | exact Or.inl rfl | exact Or.inr rfl) (pe_op op_mod (pe_op op_mulZ (pv 4) (pv 4)) pe_int))
    (pss_one (ps_ret (pe_op op_mod (pe_op op_fdivW (pe_op op_mod (pe_op op_addZ (pe_op op_mulZ (pv 4) pe_int) (pe_op op_mulZ (pv 3) pe_int)) pe_int) pe_int) (pv 1))))))))),
  draw_bodyN (N := N_law_draw) (k := 3) hP (mu := ms_law_draw) (fun p => (tjw_seq (tjw_set (k := 2) (tj_lend (tj_op oj_add (tj_op oj_ix tj_var tj_int) tj_int)))
    (tjw_seq (tjw_if (tjt_lend (tjt_test (tj_op oj_gt (tj_op oj_ix tj_var tj_int) tj_int))) (tjw_seq (tjw_asg (by decide) (tj_lend (tj_op oj_mod (tj_op oj_ix tj_var tj_int) tj_var)))
    (tjw_seq (tjw_set (k := 0) (tj_lend (tj_op oj_div (tj_op oj_ix tj_var tj_int) tj_var)))
    (tjw_ret tj_var))) tjw_nil)
    (tjw_seq (tjw_asg (by decide) (tj_lend (tj_op oj_ix tj_var tj_int)))
    (tjw_seq (tjw_asg (by decide) (tj_lend (tj_op oj_mod (tj_op oj_add (tj_op oj_add (tj_op oj_ix tj_var tj_int) (tj_op oj_mul (tj_op oj_mul tj_int tj_var) tj_var)) (tj_op oj_mul tj_int tj_var)) tj_int)))
    (tjw_seq (tjw_asg (by decide) (tj_op oj_mod (tj_op oj_mul tj_var tj_var) tj_int))
    (tjw_ret (tj_op oj_mod (tj_op oj_div (tj_op oj_mod (tj_op oj_add (tj_op oj_mul tj_var tj_int) (tj_op oj_mul tj_var tj_int)) tj_int) tj_int) tj_var)))))))) rfl plain_law_draw h⟩)
theorem ok_law_names [PoC] [FaC] (hP : DrawP K) (T : Facts K mg) : FnOk P w K mg base CX0 3 T.ad_law_names T.fd_law_names ["deck", "many"] (spFN c_law_names K 2 m_law_names) :=
  T.F_law_names.ok sc_law_names (fun _ _ _ _ h => spFN_len h) (fun cdv A outer s H vs Q E hr h => ⟨_, (pss_cons (ps_set (i := 2) sc_law_names.nd rfl (by first | exact Or.inl rfl | exact Or.inr rfl) pe_str)
    (pss_cons (ps_set (i := 3) sc_law_names.nd rfl (by first | exact Or.inl rfl | exact Or.inr rfl) (pe_lst (pa_cons pe_str (pa_cons pe_str (pa_cons pe_str (pa_cons pe_str (pa_cons pe_str (pa_cons pe_str (pa_cons pe_str (pa_cons pe_str (pa_cons pe_str (pa_cons pe_str (pa_cons pe_str (pa_cons pe_str pa_nil))))))))))))))
    (pss_cons (ps_set (i := 4) sc_law_names.nd rfl (by first | exact Or.inl rfl | exact Or.inr rfl) (pe_call (ok_law_draw hP T) (hr.mono (by decide)) (by rfl) T.g_law_draw T.F_law_draw.kp T.b_law_draw .nil pass0 (pa_cons (pv 0) (pa_cons pe_int pa_nil))))
    (pss_cons (ps_set (i := 5) sc_law_names.nd rfl (by first | exact Or.inl rfl | exact Or.inr rfl) (pe_bm PySem.F.plainAttrs_str PySem.F.slot_str_join PySem.F.type_str_join mt_join pe_str (pa_cons (pe_lc (own := [("k", 8)]) (g := gName 8) rfl sc_law_names.nd (pi_range1 (by rfl) T.n_range (pa_cons pe_int pa_nil)) (blkOk_by (N := N_law_names) (sc := defScope st_law_names) (by decide +kernel)) (fun _ _ _ _ _ => (pg_name (i := 8) sc_law_names.nd rfl (by first | exact Or.inl rfl | exact Or.inr rfl))) (fun _ _ _ _ _ => pts_nil) (fun _ _ _ _ _ => (pe_ix ix_seq (pv 2) (pe_call (ok_law_draw hP T) (hr.mono (by decide)) (by rfl) T.g_law_draw T.F_law_draw.kp T.b_law_draw .nil pass0 (pa_cons (pv 0) (pa_cons pe_int pa_nil))) (fun _ _ => rfl)))) pa_nil)))
    (pss_cons (ps_set (i := 5) sc_law_names.nd rfl (by first | exact Or.inl rfl | exact Or.inr rfl) (pe_op op_addZ (pv 5) (pe_ix ix_seq (pv 2) (pv 4) (fun _ _ => rfl))))
    (pss_cons (ps_set (i := 6) sc_law_names.nd rfl (by first | exact Or.inl rfl | exact Or.inr rfl) (pe_op op_addZ (pe_call (ok_law_draw hP T) (hr.mono (by decide)) (by rfl) T.g_law_draw T.F_law_draw.kp T.b_law_draw .nil pass0 (pa_cons (pv 0) (pa_cons pe_int pa_nil))) (pe_op op_mod (pv 4) pe_int)))
    (pss_cons (ps_set (i := 7) sc_law_names.nd rfl (by first | exact Or.inl rfl | exact Or.inr rfl) (pe_call (ok_law_draw hP T) (hr.mono (by decide)) (by rfl) T.g_law_draw T.F_law_draw.kp T.b_law_draw .nil pass0 (pa_cons (pv 0) (pa_cons pe_int pa_nil))))
    (pss_cons (ps_set (i := 3) sc_law_names.nd rfl (by first | exact Or.inl rfl | exact Or.inr rfl) (pe_slice sl_z (pv 3) (po_some (pe_op op_mulZ pe_int (pv 7))) po_none))
    (pss_cons (ps_for PassesOwn.never rfl (pi_range1 (by rfl) T.n_range (pa_cons pe_int pa_nil)) (pg_name (i := 8) sc_law_names.nd rfl (by first | exact Or.inl rfl | exact Or.inr rfl)) (pss_cons (ps_set (i := 9) sc_law_names.nd rfl (by first | exact Or.inl rfl | exact Or.inr rfl) (pe_ix ix_seq (pv 2) (pe_op op_mod (pe_op op_addZ (pv 4) (pv 8)) pe_int) (fun _ _ => rfl)))
    (pss_one (ps_expr (pe_bm PySem.F.plainAttrs_list PySem.F.slot_list_append PySem.F.type_list_append mt_append (pv 3) (pa_cons (pe_ix ix_seq (pe_lst (pa_cons (pe_op op_addZ (pv 9) (pe_op op_mulS pe_str (pe_op op_addZ pe_int (pe_op op_mod (pv 8) pe_int)))) (pa_cons (pe_op op_addZ (pe_op op_addZ (pe_slice sl_z (pv 5) po_none (po_some (pv 6))) (pv 9)) (pe_slice sl_z (pv 5) (po_some (pv 6)) (po_some (pe_op op_mod (pv 4) pe_int)))) pa_nil))) (pv 7) (fun _ _ => rfl)) pa_nil))))))
    (pss_one (ps_ret (pe_lc (own := [("k", 8)]) (g := gName 8) rfl sc_law_names.nd (pi_range1 (by rfl) T.n_range (pa_cons (pv 1) pa_nil)) (blkOk_by (N := N_law_names) (sc := defScope st_law_names) (by decide +kernel)) (fun _ _ _ _ _ => (pg_name (i := 8) sc_law_names.nd rfl (by first | exact Or.inl rfl | exact Or.inr rfl))) (fun _ _ _ _ _ => pts_nil) (fun _ _ _ _ _ => (pe_bm PySem.F.plainAttrs_list PySem.F.slot_list_pop PySem.F.type_list_pop mt_popAt (pv 3) (pa_cons (pe_call (ok_law_draw hP T) (hr.mono (by decide)) (by rfl) T.g_law_draw T.F_law_draw.kp T.b_law_draw .nil pass0 (pa_cons (pv 0) (pa_cons (pe_callB call_len (by rfl) T.n_len (by decide +kernel) (pa_cons (pv 3) pa_nil)) pa_nil))) pa_nil))))))))))))))),
  fn_bodyC (N := N_law_names) (n := 2) (k := 8) (ms := ms_law_names) (tjsn_seq (tjsn_of (tjs_asg tj_str)) (tjsn_seq (tjsn_of (tjs_asgL (tjl_lst (tjd_cons tj_str (tjd_cons tj_str (tjd_cons tj_str (tjd_cons tj_str (tjd_cons tj_str (tjd_cons tj_str (tjd_cons tj_str (tjd_cons tj_str (tjd_cons tj_str (tjd_cons tj_str (tjd_cons tj_str (tjd_cons tj_str tjd_nil))))))))))))))) (tjsn_seq (tjsn_asg (tjn_call (tjan_opq (tjan_of (tja_cons tj_int tja_nil))))) (tjsn_seq (tjsn_asg (tjn_join (tjn_of tj_str) (tjn_frz (tjln_lc (tjin_of (tji_rng1 (tjd_cons tj_int tjd_nil))) (tjgr_name (by decide)) (tjtn_of tjt_yes) (tjn_op oj_ix (tjn_of tj_var) (tjn_call (tjan_opq (tjan_of (tja_cons tj_int tja_nil))))))))) (tjsn_seq (tjsn_of (tjs_asg (tj_op oj_add tj_var (tj_op oj_ix tj_var tj_var)))) (tjsn_seq (tjsn_asg (tjn_op oj_add (tjn_call (tjan_opq (tjan_of (tja_cons tj_int tja_nil)))) (tjn_of (tj_op oj_mod tj_var tj_int)))) (tjsn_seq (tjsn_asg (tjn_call (tjan_opq (tjan_of (tja_cons tj_int tja_nil))))) (tjsn_seq (tjsn_of (tjs_asgL (tjl_lend (tjl_sl tj_var (tjo_some (tj_op oj_mul tj_int tj_var)) tjo_none)))) (tjsn_seq (tjsn_of (tjs_for (kl := [8, 9]) (tji_rng1 (tjd_cons tj_int tjd_nil)) tjg_name (tjs_seq (tjs_asg (tj_op oj_ix tj_var (tj_op oj_mod (tj_op oj_add tj_var tj_var) tj_int))) (tjs_app (tj_op oj_ix (tj_frz (tjl_lst (tjd_cons (tj_op oj_add tj_var (tj_op oj_mulS tj_str (tj_op oj_add tj_int (tj_op oj_mod tj_var tj_int)))) (tjd_cons (tj_op oj_add (tj_op oj_add (tj_sl tj_var tjo_none (tjo_some tj_var)) tj_var) (tj_sl tj_var (tjo_some tj_var) (tjo_some (tj_op oj_mod tj_var tj_int)))) tjd_nil)))) tj_var))))) (tjsn_retLM (tjlmn_lc (tjin_of (tji_rng1 (tjd_cons tj_var tjd_nil))) (tjmn_popAt (tjn_lend (tjn_call (tjan_opq (tjan_of (tja_cons (tj_cb cj_len (tjd_cons tj_var tjd_nil)) tja_nil))))))))))))))))) rfl rfl h⟩)
theorem ok_law_sets [PoC] [FaC] (hP : DrawP K) (T : Facts K mg) : FnOk P w K mg base CX0 4 T.ad_law_sets T.fd_law_sets ["deck", "most", "wide"] (spFN c_law_sets K 3 m_law_sets) :=
  T.F_law_sets.ok sc_law_sets (fun _ _ _ _ h => spFN_len h) (fun cdv A outer s H vs Q E hr h => ⟨_, (pss_cons (ps_set (i := 3) sc_law_sets.nd rfl (by first | exact Or.inl rfl | exact Or.inr rfl) (pe_call (ok_law_names hP T) (hr.mono (by decide)) (by rfl) T.g_law_names T.F_law_names.kp T.b_law_names .nil pass0 (pa_cons (pv 0) (pa_cons (pe_op op_addZ pe_int (pe_call (ok_law_draw hP T) (hr.mono (by decide)) (by rfl) T.g_law_draw T.F_law_draw.kp T.b_law_draw .nil pass0 (pa_cons (pv 0) (pa_cons (pv 2) pa_nil)))) pa_nil))))
    (pss_cons (ps_set (i := 4) sc_law_sets.nd rfl (by first | exact Or.inl rfl | exact Or.inr rfl) (pe_call (ok_law_draw hP T) (hr.mono (by decide)) (by rfl) T.g_law_draw T.F_law_draw.kp T.b_law_draw .nil pass0 (pa_cons (pv 0) (pa_cons pe_int pa_nil))))
    (pss_cons (ps_setLc (i := 5) (own := [("name", 10)]) (g := gName 10)  rfl sc_law_sets.nd rfl rfl (sw_true rfl rfl rfl (by decide +kernel)) (pi_seqZ (pv 3)) (blkOk_by (N := N_law_sets) (sc := defScope st_law_sets) (by decide +kernel)) (fun _ _ _ _ _ => (pg_name (i := 10) sc_law_sets.nd rfl (by first | exact Or.inl rfl | exact Or.inr rfl))) (fun _ _ _ _ _ => (pts_one (pt_cmpR (op_eqZ hr.units) (pe_call (ok_law_draw hP T) (hr.mono (by decide)) (by rfl) T.g_law_draw T.F_law_draw.kp T.b_law_draw .nil pass0 (pa_cons (pv 0) (pa_cons pe_int pa_nil))) pe_int (nomark _)))) (fun _ _ _ _ _ => (pv 10)))
    (pss_cons (ps_set (i := 6) sc_law_sets.nd rfl (by first | exact Or.inl rfl | exact Or.inr rfl) (pe_op op_addZ pe_int (pe_call (ok_law_draw hP T) (hr.mono (by decide)) (by rfl) T.g_law_draw T.F_law_draw.kp T.b_law_draw .nil pass0 (pa_cons (pv 0) (pa_cons pe_int pa_nil)))))
    (pss_cons (ps_set (i := 7) sc_law_sets.nd rfl (by first | exact Or.inl rfl | exact Or.inr rfl) (pe_lst pa_nil))
    (pss_cons (ps_for PassesOwn.never rfl (pi_range1 (by rfl) T.n_range (pa_cons (pe_ix ix_seq (pe_lst (pa_cons (pe_call (ok_law_draw hP T) (hr.mono (by decide)) (by rfl) T.g_law_draw T.F_law_draw.kp T.b_law_draw .nil pass0 (pa_cons (pv 0) (pa_cons (pe_op op_addZ (pv 1) pe_int) pa_nil))) (pa_cons (pv 1) pa_nil))) (pe_callTy call_int1 (by rfl) T.n_int (by decide +kernel) (pa_cons (pe_cmpR (op_eqZ hr.units) (pe_call (ok_law_draw hP T) (hr.mono (by decide)) (by rfl) T.g_law_draw T.F_law_draw.kp T.b_law_draw .nil pass0 (pa_cons (pv 0) (pa_cons pe_int pa_nil))) pe_int (nomark _)) pa_nil)) (fun _ _ => rfl)) pa_nil)) (pg_name (i := 8) sc_law_sets.nd rfl (by first | exact Or.inl rfl | exact Or.inr rfl)) (pss_cons (ps_setLc (i := 9) (own := [("name", 10)]) (g := gName 10)  rfl sc_law_sets.nd rfl rfl (sw_true rfl rfl rfl (by decide +kernel)) (pi_seqZ (pv 3)) (blkOk_by (N := N_law_sets) (sc := defScope st_law_sets) (by decide +kernel)) (fun _ _ _ _ _ => (pg_name (i := 10) sc_law_sets.nd rfl (by first | exact Or.inl rfl | exact Or.inr rfl))) (fun _ _ _ _ _ => (pts_one (pt_cmpR (op_eqZ hr.units) (pe_call (ok_law_draw hP T) (hr.mono (by decide)) (by rfl) T.g_law_draw T.F_law_draw.kp T.b_law_draw .nil pass0 (pa_cons (pv 0) (pa_cons (pe_ix ix_seq (pe_lst (pa_cons pe_int (pa_cons pe_int (pa_cons pe_int (pa_cons pe_int (pa_cons pe_int pa_nil)))))) (pv 4) (fun _ _ => rfl)) pa_nil))) pe_int (nomark _)))) (fun _ _ _ _ _ => (pv 10)))
    (pss_cons (ps_if (pt_cmpR (op_eqZ hr.units) (pv 4) pe_int (nomark _)) (pss_one (ps_set (i := 9) sc_law_sets.nd rfl (by first | exact Or.inl rfl | exact Or.inr rfl) (pe_op op_addZ (pe_op op_addZ (pv 5) (pe_slice sl_z (pv 9) po_none (po_some pe_int))) (pe_lc (own := [("at", 11), ("name", 10)]) (g := gTup _ 2 (gCons (gName 11) (gCons (gName 10) gNil))) rfl sc_law_sets.nd (pi_enumZ (by rfl) T.n_enumerate (pa_cons (pv 3) pa_nil)) (blkOk_by (N := N_law_sets) (sc := defScope st_law_sets) (by decide +kernel)) (fun _ _ _ _ _ => (pg_tup rfl (pgs_cons (pg_name (i := 11) sc_law_sets.nd rfl (by first | exact Or.inl rfl | exact Or.inr rfl)) (pgs_cons (pg_name (i := 10) sc_law_sets.nd rfl (by first | exact Or.inl rfl | exact Or.inr rfl)) pgs_nil)))) (fun _ _ _ _ _ => (pts_one (pt_cmpR (op_eqZ hr.units) (pe_op op_mod (pv 11) (pv 6)) (pe_op op_mod (pv 8) (pv 6)) (nomark _)))) (fun _ _ _ _ _ => (pv 10)))))) pss_nil)
    (pss_cons (ps_if (pt_cmpR (op_eqZ hr.units) (pv 4) pe_int (nomark _)) (pss_one (ps_set (i := 9) sc_law_sets.nd rfl (by first | exact Or.inl rfl | exact Or.inr rfl) (pe_lst (pa_cons (pe_ix ix_seq (pv 3) (pe_call (ok_law_draw hP T) (hr.mono (by decide)) (by rfl) T.g_law_draw T.F_law_draw.kp T.b_law_draw .nil pass0 (pa_cons (pv 0) (pa_cons (pe_callB call_len (by rfl) T.n_len (by decide +kernel) (pa_cons (pv 3) pa_nil)) pa_nil))) (fun _ _ => rfl)) (pa_cons (pe_ix ix_seq (pv 3) (pe_call (ok_law_draw hP T) (hr.mono (by decide)) (by rfl) T.g_law_draw T.F_law_draw.kp T.b_law_draw .nil pass0 (pa_cons (pv 0) (pa_cons (pe_callB call_len (by rfl) T.n_len (by decide +kernel) (pa_cons (pv 3) pa_nil)) pa_nil))) (fun _ _ => rfl)) pa_nil))))) pss_nil)
    (pss_cons (ps_if (pt_cmpR (op_eqZ hr.units) (pv 4) pe_int (nomark _)) (pss_one (ps_set (i := 9) sc_law_sets.nd rfl (by first | exact Or.inl rfl | exact Or.inr rfl) (pe_slice sl_z (pv 3) po_none (po_some (pe_call (ok_law_draw hP T) (hr.mono (by decide)) (by rfl) T.g_law_draw T.F_law_draw.kp T.b_law_draw .nil pass0 (pa_cons (pv 0) (pa_cons (pe_op op_addZ (pe_callB call_len (by rfl) T.n_len (by decide +kernel) (pa_cons (pv 3) pa_nil)) pe_int) pa_nil))))))) pss_nil)
    (pss_one (ps_expr (pe_bm PySem.F.plainAttrs_list PySem.F.slot_list_append PySem.F.type_list_append mt_append (pv 7) (pa_cons (pe_callTy call_tuple_of (by rfl) T.n_tuple (by decide +kernel) (pa_cons (pe_callB (call_sortZ hr.units) (by rfl) T.n_sorted (by decide +kernel) (pa_cons (pe_slice sl_z (pe_callSet (call_sortSet rfl hr.units) (by rfl) T.n_sorted (by decide +kernel) (by rfl) T.n_set (pa_cons (pv 9) pa_nil)) po_none (po_some pe_int)) pa_nil)) pa_nil)) pa_nil)))))))))
    (pss_one (ps_ret (pe_callTy call_tuple_of (by rfl) T.n_tuple (by decide +kernel) (pa_cons (pe_callSet (call_sortSet rfl hr.units) (by rfl) T.n_sorted (by decide +kernel) (by rfl) T.n_set (pa_cons (pv 7) pa_nil)) pa_nil)))))))))),
  fn_bodyC (N := N_law_sets) (n := 3) (k := 9) (ms := ms_law_sets) (tjsn_seq (tjsn_asg (tjn_call (tjan_opq (tjan_cons (tjn_op oj_add (tjn_of tj_int) (tjn_call (tjan_opq (tjan_of (tja_cons tj_var tja_nil))))) (tjan_of tja_nil))))) (tjsn_seq (tjsn_asg (tjn_call (tjan_opq (tjan_of (tja_cons tj_int tja_nil))))) (tjsn_seq (tjsn_asg (tjn_frz (tjln_lc (tjin_of (tji_seq tj_var)) (tjgr_name (by decide)) (tjtn_test (tjn_op oj_eq (tjn_call (tjan_opq (tjan_of (tja_cons tj_int tja_nil)))) (tjn_of tj_int))) (tjn_of tj_var)))) (tjsn_seq (tjsn_asg (tjn_op oj_add (tjn_of tj_int) (tjn_call (tjan_opq (tjan_of (tja_cons tj_int tja_nil)))))) (tjsn_seq (tjsn_of (tjs_asgL (tjl_lst tjd_nil))) (tjsn_seq (tjsn_for (kl := [8, 9]) (tjin_rng1 (tjdn_cons (tjn_op oj_ix (tjn_frz (tjln_lst (tjdn_cons (tjn_call (tjan_opq (tjan_of (tja_cons (tj_op oj_add tj_var tj_int) tja_nil)))) (tjdn_of (tjd_cons tj_var tjd_nil))))) (tjn_cb cj_int1 (tjdn_cons (tjn_op oj_eq (tjn_call (tjan_opq (tjan_of (tja_cons tj_int tja_nil)))) (tjn_of tj_int)) (tjdn_of tjd_nil)))) (tjdn_of tjd_nil))) tjg_name (tjsn_seq (tjsn_asg (tjn_frz (tjln_lc (tjin_of (tji_seq tj_var)) (tjgr_name (by decide)) (tjtn_test (tjn_op oj_eq (tjn_call (tjan_opq (tjan_of (tja_cons (tj_op oj_ix (tj_frz (tjl_lst (tjd_cons tj_int (tjd_cons tj_int (tjd_cons tj_int (tjd_cons tj_int (tjd_cons tj_int tjd_nil))))))) tj_var) tja_nil)))) (tjn_of tj_int))) (tjn_of tj_var)))) (tjsn_seq (tjsn_of (tjs_if (tjt_test (tj_op oj_eq tj_var tj_int)) (tjs_asg (tj_op oj_add (tj_op oj_add tj_var (tj_sl tj_var tjo_none (tjo_some tj_int))) (tj_frz (tjl_lc (tji_enum (tjd_cons tj_var tjd_nil)) (tjgr_tup (tjgrs_cons (tjgr_name (by decide)) (tjgrs_cons (tjgr_name (by decide)) tjgrs_nil))) (tjt_test (tj_op oj_eq (tj_op oj_mod tj_var tj_var) (tj_op oj_mod tj_var tj_var))) tj_var)))) tjs_nil)) (tjsn_seq (tjsn_if (tjtn_of (tjt_test (tj_op oj_eq tj_var tj_int))) (tjsn_asg (tjn_frz (tjln_lst (tjdn_cons (tjn_op oj_ix (tjn_of tj_var) (tjn_call (tjan_opq (tjan_of (tja_cons (tj_cb cj_len (tjd_cons tj_var tjd_nil)) tja_nil))))) (tjdn_cons (tjn_op oj_ix (tjn_of tj_var) (tjn_call (tjan_opq (tjan_of (tja_cons (tj_cb cj_len (tjd_cons tj_var tjd_nil)) tja_nil))))) (tjdn_of tjd_nil)))))) (tjsn_of tjs_nil)) (tjsn_seq (tjsn_if (tjtn_of (tjt_test (tj_op oj_eq tj_var tj_int))) (tjsn_asg (tjn_sl (tjn_of tj_var) (tjon_of tjo_none) (tjon_some (tjn_call (tjan_opq (tjan_of (tja_cons (tj_op oj_add (tj_cb cj_len (tjd_cons tj_var tjd_nil)) tj_int) tja_nil))))))) (tjsn_of tjs_nil)) (tjsn_of (tjs_app (tj_cb cj_tupOf (tjd_cons (tj_frz (tjl_cb cjl_sorted (tjd_cons (tj_sl (tj_frz (tjl_cb cjl_sortSet (tjd_cons tj_var tjd_nil))) tjo_none (tjo_some tj_int)) tjd_nil))) tjd_nil))))))))) (tjsn_of (tjs_frz (is := [7]) (tjs_ret (tj_cb cj_tupOf (tjd_cons (tj_frz (tjl_cb cjl_sortSet (tjd_cons tj_var tjd_nil))) tjd_nil))))))))))) rfl rfl h⟩)
theorem ok_law_meet [PoC] (T : Facts K mg) : FnOk P w K mg base CX0 2 T.ad_law_meet T.fd_law_meet ["one", "other"] (spF K 2 m_law_meet) :=
  T.F_law_meet.ok sc_law_meet (fun _ _ _ _ h => spF_len h) (fun cdv A outer s H vs Q E hr h => ⟨_, (pss_one (ps_ret (pe_callTy call_tuple_of (by rfl) T.n_tuple (by decide +kernel) (pa_cons (pe_lc (own := [("name", 2)]) (g := gName 2) rfl sc_law_meet.nd (pi_seqZ (pv 0)) (blkOk_by (N := N_law_meet) (sc := defScope st_law_meet) (by decide +kernel)) (fun _ _ _ _ _ => (pg_name (i := 2) sc_law_meet.nd rfl (by first | exact Or.inl rfl | exact Or.inr rfl))) (fun _ _ _ _ _ => (pts_one (pt_cmpR (op_inZ hr.u65) (pv 2) (pv 1) (by rfl)))) (fun _ _ _ _ _ => (pv 2))) pa_nil)))),
  fn_body (N := N_law_meet) (n := 2) (k := 1) (ms := ms_law_meet) (tjs_ret (tj_cb cj_tupOf (tjd_cons (tj_frz (tjl_lc (tji_seq tj_var) (tjgr_name (by decide)) (tjt_test (tj_op oj_in tj_var tj_var)) tj_var)) tjd_nil))) rfl h⟩)
theorem ok_law_flowers [PoC] (T : Facts K mg) : FnOk P w K mg base CX0 3 T.ad_law_flowers T.fd_law_flowers ["sets", "many"] (spF K 2 m_law_flowers) :=
  T.F_law_flowers.ok sc_law_flowers (fun _ _ _ _ h => spF_len h) (fun cdv A outer s H vs Q E hr h => ⟨_, (pss_cons (ps_set (i := 2) sc_law_flowers.nd rfl (by first | exact Or.inl rfl | exact Or.inr rfl) (pe_lst pa_nil))
    (pss_cons (ps_for PassesOwn.never rfl (pi_enumZ (by rfl) T.n_enumerate (pa_cons (pv 0) pa_nil)) (pg_tup rfl (pgs_cons (pg_name (i := 3) sc_law_flowers.nd rfl (by first | exact Or.inl rfl | exact Or.inr rfl)) (pgs_cons (pg_name (i := 4) sc_law_flowers.nd rfl (by first | exact Or.inl rfl | exact Or.inr rfl)) pgs_nil))) (pss_one (ps_for PassesOwn.never rfl (pi_range2 (by rfl) T.n_range (pa_cons (pe_op op_addZ (pv 3) pe_int) (pa_cons (pe_callB call_len (by rfl) T.n_len (by decide +kernel) (pa_cons (pv 0) pa_nil)) pa_nil))) (pg_name (i := 5) sc_law_flowers.nd rfl (by first | exact Or.inl rfl | exact Or.inr rfl)) (pss_cons (ps_set (i := 6) sc_law_flowers.nd rfl (by first | exact Or.inl rfl | exact Or.inr rfl) (pe_call (ok_law_meet T) (hr.mono (by decide)) (by rfl) T.g_law_meet T.F_law_meet.kp T.b_law_meet .nil pass0 (pa_cons (pv 4) (pa_cons (pe_ix ix_seq (pv 0) (pv 5) (fun _ _ => rfl)) pa_nil))))
    (pss_cons (ps_set (i := 7) sc_law_flowers.nd rfl (by first | exact Or.inl rfl | exact Or.inr rfl) (pe_lst (pa_cons (pe_tup (pa_cons (pe_lst (pa_cons (pv 3) (pa_cons (pv 5) pa_nil))) (pa_cons (pe_lc (own := [("name", 15)]) (g := gName 15) rfl sc_law_flowers.nd (pi_seqZ (pe_op op_addZ (pv 4) (pe_ix ix_seq (pv 0) (pv 5) (fun _ _ => rfl)))) (blkOk_by (N := N_law_flowers) (sc := defScope st_law_flowers) (by decide +kernel)) (fun _ _ _ _ _ => (pg_name (i := 15) sc_law_flowers.nd rfl (by first | exact Or.inl rfl | exact Or.inr rfl))) (fun _ _ _ _ _ => (pts_one (pt_cmpR (op_notInZ hr.u65) (pv 15) (pv 6) (by rfl)))) (fun _ _ _ _ _ => (pv 15))) pa_nil))) pa_nil)))
    (pss_cons (ps_for PassesOwn.never rfl (pi_range1 (by rfl) T.n_range (pa_cons (pe_op op_sub (pv 1) pe_int) pa_nil)) (pg_name (i := 8) sc_law_flowers.nd rfl (by first | exact Or.inl rfl | exact Or.inr rfl)) (pss_cons (ps_set (i := 9) sc_law_flowers.nd rfl (by first | exact Or.inl rfl | exact Or.inr rfl) (pe_lst pa_nil))
    (pss_cons (ps_for PassesOwn.never rfl (pi_seqZ (pv 7)) (pg_tup rfl (pgs_cons (pg_name (i := 10) sc_law_flowers.nd rfl (by first | exact Or.inl rfl | exact Or.inr rfl)) (pgs_cons (pg_name (i := 11) sc_law_flowers.nd rfl (by first | exact Or.inl rfl | exact Or.inr rfl)) pgs_nil))) (pss_one (ps_for PassesOwn.never rfl (pi_range2 (by rfl) T.n_range (pa_cons (pe_op op_addZ (pe_ix ix_seq (pv 10) (pe_un un_neg pe_int) (fun _ _ => rfl)) pe_int) (pa_cons (pe_callB call_len (by rfl) T.n_len (by decide +kernel) (pa_cons (pv 0) pa_nil)) pa_nil))) (pg_name (i := 12) sc_law_flowers.nd rfl (by first | exact Or.inl rfl | exact Or.inr rfl)) (pss_cons (ps_setLc (i := 13) (own := [("name", 15)]) (g := gName 15)  rfl sc_law_flowers.nd rfl rfl (sw_true rfl rfl rfl (by decide +kernel)) (pi_seqZ (pe_ix ix_seq (pv 0) (pv 12) (fun _ _ => rfl))) (blkOk_by (N := N_law_flowers) (sc := defScope st_law_flowers) (by decide +kernel)) (fun _ _ _ _ _ => (pg_name (i := 15) sc_law_flowers.nd rfl (by first | exact Or.inl rfl | exact Or.inr rfl))) (fun _ _ _ _ _ => (pts_one (pt_cmpR (op_notInZ hr.u65) (pv 15) (pv 6) (by rfl)))) (fun _ _ _ _ _ => (pv 15)))
    (pss_cons (ps_set (i := 14) sc_law_flowers.nd rfl (by first | exact Or.inl rfl | exact Or.inr rfl) (pe_cmpR (op_eqZ hr.units) (pe_op op_addZ (pe_callB call_len (by rfl) T.n_len (by decide +kernel) (pa_cons (pv 13) pa_nil)) (pe_callB call_len (by rfl) T.n_len (by decide +kernel) (pa_cons (pv 6) pa_nil))) (pe_callB call_len (by rfl) T.n_len (by decide +kernel) (pa_cons (pe_ix ix_seq (pv 0) (pv 12) (fun _ _ => rfl)) pa_nil)) (nomark _)))
    (pss_one (ps_if (PW.pt (pw_and (pt_truth (pv 14) (by intro _; rfl)) (pw_and1 (pt_cmpR (op_eqZ hr.units) (pe_lc (own := [("name", 15)]) (g := gName 15) rfl sc_law_flowers.nd (pi_seqZ (pv 13)) (blkOk_by (N := N_law_flowers) (sc := defScope st_law_flowers) (by decide +kernel)) (fun _ _ _ _ _ => (pg_name (i := 15) sc_law_flowers.nd rfl (by first | exact Or.inl rfl | exact Or.inr rfl))) (fun _ _ _ _ _ => (pts_one (pt_cmpR (op_inZ hr.u65) (pv 15) (pv 11) (by rfl)))) (fun _ _ _ _ _ => (pv 15))) (pe_lst pa_nil) (nomark _))))) (pss_one (ps_expr (pe_bm PySem.F.plainAttrs_list PySem.F.slot_list_append PySem.F.type_list_append mt_append (pv 9) (pa_cons (pe_tup (pa_cons (pe_op op_addZ (pv 10) (pe_lst (pa_cons (pv 12) pa_nil))) (pa_cons (pe_op op_addZ (pv 11) (pv 13)) pa_nil))) pa_nil)))) pss_nil)))))))
    (pss_one (ps_set (i := 7) sc_law_flowers.nd rfl (by first | exact Or.inl rfl | exact Or.inr rfl) (pv 9))))))
    (pss_one (ps_expr (pe_bm PySem.F.plainAttrs_list PySem.F.slot_list_extend PySem.F.type_list_extend mt_extZ (pv 2) (pa_cons (pe_lc (own := [("row", 10), ("taken", 11)]) (g := gTup _ 2 (gCons (gName 10) (gCons (gName 11) gNil))) rfl sc_law_flowers.nd (pi_seqZ (pv 7)) (blkOk_by (N := N_law_flowers) (sc := defScope st_law_flowers) (by decide +kernel)) (fun _ _ _ _ _ => (pg_tup rfl (pgs_cons (pg_name (i := 10) sc_law_flowers.nd rfl (by first | exact Or.inl rfl | exact Or.inr rfl)) (pgs_cons (pg_name (i := 11) sc_law_flowers.nd rfl (by first | exact Or.inl rfl | exact Or.inr rfl)) pgs_nil)))) (fun _ _ _ _ _ => pts_nil) (fun _ _ _ _ _ => (pe_tup (pa_cons (pv 10) (pa_cons (pv 6) pa_nil))))) pa_nil))))))))))
    (pss_one (ps_ret (pv 2))))),
  fn_body (N := N_law_flowers) (n := 2) (k := 14) (ms := ms_law_flowers) (tjs_seq (tjs_asgL (tjl_lst tjd_nil))
    (tjs_seq (tjs_for (kl := [3, 4, 5, 6, 7, 8, 9, 11, 12, 13, 14]) (tji_enum (tjd_cons tj_var tjd_nil)) (tjg_tup (tjgs_cons tjg_name (tjgs_cons tjg_name tjgs_nil))) (tjs_for (kl := [5, 6, 7, 8, 9, 11, 12, 13, 14]) (tji_rng2 (tjd_cons (tj_op oj_add tj_var tj_int) (tjd_cons (tj_cb cj_len (tjd_cons tj_var tjd_nil)) tjd_nil))) tjg_name (tjs_seq (tjs_asg (tj_call (tja_cons tj_var (tja_cons (tj_op oj_ix tj_var tj_var) tja_nil))))
    (tjs_seq (tjs_asg (tj_frz (tjl_lst (tjd_cons (tj_tup (tjd_cons (tj_frz (tjl_lst (tjd_cons tj_var (tjd_cons tj_var tjd_nil)))) (tjd_cons (tj_frz (tjl_lc (tji_seq (tj_op oj_add tj_var (tj_op oj_ix tj_var tj_var))) (tjgr_name (by decide)) (tjt_test (tj_op oj_notIn tj_var tj_var)) tj_var)) tjd_nil))) tjd_nil))))
    (tjs_seq (tjs_for (kl := [8, 9, 11, 12, 13, 14]) (tji_rng1 (tjd_cons (tj_op oj_sub tj_var tj_int) tjd_nil)) tjg_name (tjs_seq (tjs_asgL (tjl_lst tjd_nil))
    (tjs_seq (tjs_for (kl := [11, 12, 13, 14]) (tji_seq tj_var) (tjg_tup (tjgs_cons tjg_name (tjgs_cons tjg_name tjgs_nil))) (tjs_for (kl := [12, 13, 14]) (tji_rng2 (tjd_cons (tj_op oj_add (tj_op oj_ix tj_var (tj_un uj_neg tj_int)) tj_int) (tjd_cons (tj_cb cj_len (tjd_cons tj_var tjd_nil)) tjd_nil))) tjg_name (tjs_seq (tjs_asg (tj_frz (tjl_lc (tji_seq (tj_op oj_ix tj_var tj_var)) (tjgr_name (by decide)) (tjt_test (tj_op oj_notIn tj_var tj_var)) tj_var)))
    (tjs_seq (tjs_asg (tj_op oj_eq (tj_op oj_add (tj_cb cj_len (tjd_cons tj_var tjd_nil)) (tj_cb cj_len (tjd_cons tj_var tjd_nil))) (tj_cb cj_len (tjd_cons (tj_op oj_ix tj_var tj_var) tjd_nil))))
    (tjs_if (tjt_and (tjt_truth tj_var) (tjt_test (tj_op oj_eq (tj_frz (tjl_lc (tji_seq tj_var) (tjgr_name (by decide)) (tjt_test (tj_op oj_in tj_var tj_var)) tj_var)) (tj_frz (tjl_lst tjd_nil))))) (tjs_app (tj_tup (tjd_cons (tj_op oj_add tj_var (tj_frz (tjl_lst (tjd_cons tj_var tjd_nil)))) (tjd_cons (tj_op oj_add tj_var tj_var) tjd_nil)))) tjs_nil)))))
    (tjs_frz (is := [9]) (tjs_asg tj_var)))))
    (tjs_ext (tj_frz (tjl_lc (tji_seq tj_var) (tjgr_tup (tjgrs_cons (tjgr_name (by decide)) (tjgrs_cons (tjgr_name (by decide)) tjgrs_nil))) tjt_yes (tj_tup (tjd_cons tj_var (tjd_cons tj_var tjd_nil)))))))))))
    tjs_retB)) rfl h⟩)
theorem ok_law_next [PoC] (T : Facts K mg) : FnOk P w K mg base CX0 4 T.ad_law_next T.fd_law_next ["sets", "many"] (spF K 2 m_law_next) :=
  T.F_law_next.ok sc_law_next (fun _ _ _ _ h => spF_len h) (fun cdv A outer s H vs Q E hr h => ⟨_, (pss_cons (ps_set (i := 2) sc_law_next.nd rfl (by first | exact Or.inl rfl | exact Or.inr rfl) (pe_call (ok_law_flowers T) (hr.mono (by decide)) (by rfl) T.g_law_flowers T.F_law_flowers.kp T.b_law_flowers .nil pass0 (pa_cons (pv 0) (pa_cons (pv 1) pa_nil))))
    (pss_cons (ps_set (i := 3) sc_law_next.nd rfl (by first | exact Or.inl rfl | exact Or.inr rfl) pe_dnewT)
    (pss_cons (ps_for PassesOwn.never rfl (pi_seqZ (pv 2)) (pg_tup rfl (pgs_cons (pg_name (i := 4) sc_law_next.nd rfl (by first | exact Or.inl rfl | exact Or.inr rfl)) (pgs_cons (pg_name (i := 5) sc_law_next.nd rfl (by first | exact Or.inl rfl | exact Or.inr rfl)) pgs_nil))) (pss_one (ps_for PassesOwn.never rfl (pi_seqZ (pv 4)) (pg_name (i := 6) sc_law_next.nd rfl (by first | exact Or.inl rfl | exact Or.inr rfl)) (pss_one (ps_dput hr.units1 (pv 3) (pe_ix ix_seq (pv 0) (pv 6) (fun _ _ => rfl)) pe_bl rfl)))))
    (pss_one (ps_ret (pe_callTy call_tuple_of (by rfl) T.n_tuple (by decide +kernel) (pa_cons (pe_callSet (call_sortSet rfl hr.units) (by rfl) T.n_sorted (by decide +kernel) (by rfl) T.n_set (pa_cons (pe_op op_addZ (pe_lc (own := [("row", 4), ("core", 5)]) (g := gTup _ 2 (gCons (gName 4) (gCons (gName 5) gNil))) rfl sc_law_next.nd (pi_seqZ (pv 2)) (blkOk_by (N := N_law_next) (sc := defScope st_law_next) (by decide +kernel)) (fun _ _ _ _ _ => (pg_tup rfl (pgs_cons (pg_name (i := 4) sc_law_next.nd rfl (by first | exact Or.inl rfl | exact Or.inr rfl)) (pgs_cons (pg_name (i := 5) sc_law_next.nd rfl (by first | exact Or.inl rfl | exact Or.inr rfl)) pgs_nil)))) (fun _ _ _ _ _ => pts_nil) (fun _ _ _ _ _ => (pv 5))) (pe_lc (own := [("one", 7)]) (g := gName 7) rfl sc_law_next.nd (pi_seqZ (pv 0)) (blkOk_by (N := N_law_next) (sc := defScope st_law_next) (by decide +kernel)) (fun _ _ _ _ _ => (pg_name (i := 7) sc_law_next.nd rfl (by first | exact Or.inl rfl | exact Or.inr rfl))) (fun _ _ _ _ _ => (pts_one (pt_cmp (pc_dnotin hr.units1 (pv 7) (pv 3))))) (fun _ _ _ _ _ => (pv 7)))) pa_nil)) pa_nil))))))),
  fn_body (N := N_law_next) (n := 2) (k := 6) (ms := ms_law_next) (tjs_seq (tjs_asg (tj_call (tja_cons tj_var (tja_cons tj_var tja_nil))))
    (tjs_seq tjs_newT
    (tjs_seq (tjs_for (kl := [4, 6]) (tji_seq tj_var) (tjg_tup (tjgs_cons tjg_name (tjgs_cons tjg_name tjgs_nil))) (tjs_for (kl := [6]) (tji_seq tj_var) tjg_name (tjs_dputT (tj_op oj_ix tj_var tj_var) tj_bl)))
    (tjs_ret (tj_cb cj_tupOf (tjd_cons (tj_frz (tjl_cb cjl_sortSet (tjd_cons (tj_op oj_add (tj_frz (tjl_lc (tji_seq tj_var) (tjgr_tup (tjgrs_cons (tjgr_name (by decide)) (tjgrs_cons (tjgr_name (by decide)) tjgrs_nil))) tjt_yes tj_var)) (tj_frz (tjl_lc (tji_seq tj_var) (tjgr_name (by decide)) (tjt_b (tj_dnotinT tj_var)) tj_var))) tjd_nil))) tjd_nil)))))) rfl h⟩)
theorem ok_law_due [PoC] (T : Facts K mg) : FnOk P w K mg base CX0 5 T.ad_law_due T.fd_law_due ["sets", "many", "most"] (spF K 3 m_law_due) :=
  T.F_law_due.ok sc_law_due (fun _ _ _ _ h => spF_len h) (fun cdv A outer s H vs Q E hr h => ⟨_, (pss_cons (ps_set (i := 3) sc_law_due.nd rfl (by first | exact Or.inl rfl | exact Or.inr rfl) (pe_lst (pa_cons (pv 0) pa_nil)))
    (pss_cons (ps_set (i := 4) sc_law_due.nd rfl (by first | exact Or.inl rfl | exact Or.inr rfl) (pe_call (ok_law_next T) (hr.mono (by decide)) (by rfl) T.g_law_next T.F_law_next.kp T.b_law_next .nil pass0 (pa_cons (pv 0) (pa_cons (pv 1) pa_nil))))
    (pss_cons (ps_while PassesOwn.never (PW.pt (pw_and (pt_cmpR (op_ltZ hr.units) (pe_callB call_len (by rfl) T.n_len (by decide +kernel) (pa_cons (pv 3) pa_nil)) (pv 2) (nomark _)) (pw_and1 (pt_cmpR (op_neZ hr.units) (pv 4) (pe_ix ix_seq (pv 3) (pe_un un_neg pe_int) (fun _ _ => rfl)) (nomark _))))) (pss_cons (ps_expr (pe_bm PySem.F.plainAttrs_list PySem.F.slot_list_append PySem.F.type_list_append mt_append (pv 3) (pa_cons (pv 4) pa_nil)))
    (pss_one (ps_set (i := 4) sc_law_due.nd rfl (by first | exact Or.inl rfl | exact Or.inr rfl) (pe_call (ok_law_next T) (hr.mono (by decide)) (by rfl) T.g_law_next T.F_law_next.kp T.b_law_next .nil pass0 (pa_cons (pe_ix ix_seq (pv 3) (pe_un un_neg pe_int) (fun _ _ => rfl)) (pa_cons (pv 1) pa_nil)))))))
    (pss_one (ps_ret (pv 3)))))),
  fn_body (N := N_law_due) (n := 3) (k := 2) (ms := ms_law_due) (tjs_seq (tjs_asgL (tjl_lst (tjd_cons tj_var tjd_nil)))
    (tjs_seq (tjs_asg (tj_call (tja_cons tj_var (tja_cons tj_var tja_nil))))
    (tjs_seq (tjs_while (kl := []) (tjt_lend (tjt_and (tjt_test (tj_op oj_lt (tj_cb cj_len (tjd_cons tj_var tjd_nil)) tj_var)) (tjt_test (tj_op oj_ne tj_var (tj_op oj_ix tj_var (tj_un uj_neg tj_int)))))) (tjs_seq (tjs_app tj_var)
    (tjs_asg (tj_lend (tj_call (tja_cons (tj_op oj_ix tj_var (tj_un uj_neg tj_int)) (tja_cons tj_var tja_nil)))))))
    tjs_retB))) rfl h⟩)
theorem ok_meet [PoC] (T : Facts K mg) : FnOk P w K mg base CX0 2 T.ad_meet T.fd_meet ["one", "other"] (spF K 2 m_meet) :=
  T.F_meet.ok sc_meet (fun _ _ _ _ h => spF_len h) (fun cdv A outer s H vs Q E hr h => ⟨_, (pss_one (ps_ret (pe_callTy call_tuple_of (by rfl) T.n_tuple (by decide +kernel) (pa_cons (pe_lc (own := [("name", 2)]) (g := gName 2) rfl sc_meet.nd (pi_seqZ (pv 0)) (blkOk_by (N := N_meet) (sc := defScope st_meet) (by decide +kernel)) (fun _ _ _ _ _ => (pg_name (i := 2) sc_meet.nd rfl (by first | exact Or.inl rfl | exact Or.inr rfl))) (fun _ _ _ _ _ => (pts_one (pt_cmpR (op_inZ hr.u65) (pv 2) (pv 1) (by rfl)))) (fun _ _ _ _ _ => (pv 2))) pa_nil)))),
  fn_body (N := N_meet) (n := 2) (k := 1) (ms := ms_meet) (tjs_ret (tj_cb cj_tupOf (tjd_cons (tj_frz (tjl_lc (tji_seq tj_var) (tjgr_name (by decide)) (tjt_test (tj_op oj_in tj_var tj_var)) tj_var)) tjd_nil))) rfl h⟩)
theorem ok_begun [PoC] (T : Facts K mg) : FnOk P w K mg base CX0 3 T.ad_begun T.fd_begun ["sets"] (spF K 1 m_begun) :=
  T.F_begun.ok sc_begun (fun _ _ _ _ h => spF_len h) (fun cdv A outer s H vs Q E hr h => ⟨_, (pss_cons (ps_set (i := 1) sc_begun.nd rfl (by first | exact Or.inl rfl | exact Or.inr rfl) (pe_lst pa_nil))
    (pss_cons (ps_for PassesOwn.never rfl (pi_enumZ (by rfl) T.n_enumerate (pa_cons (pv 0) pa_nil)) (pg_tup rfl (pgs_cons (pg_name (i := 2) sc_begun.nd rfl (by first | exact Or.inl rfl | exact Or.inr rfl)) (pgs_cons (pg_name (i := 3) sc_begun.nd rfl (by first | exact Or.inl rfl | exact Or.inr rfl)) pgs_nil))) (pss_one (ps_expr (pe_bm PySem.F.plainAttrs_list PySem.F.slot_list_extend PySem.F.type_list_extend mt_extZ (pv 1) (pa_cons (pe_lc (own := [("beside", 4)]) (g := gName 4) rfl sc_begun.nd (pi_range2 (by rfl) T.n_range (pa_cons (pe_op op_addZ (pv 2) pe_int) (pa_cons (pe_callB call_len (by rfl) T.n_len (by decide +kernel) (pa_cons (pv 0) pa_nil)) pa_nil))) (blkOk_by (N := N_begun) (sc := defScope st_begun) (by decide +kernel)) (fun _ _ _ _ _ => (pg_name (i := 4) sc_begun.nd rfl (by first | exact Or.inl rfl | exact Or.inr rfl))) (fun _ _ _ _ _ => pts_nil) (fun _ _ _ _ _ => (pe_tup (pa_cons (pe_lst (pa_cons (pv 2) (pa_cons (pv 4) pa_nil))) (pa_cons (pe_call (ok_meet T) (hr.mono (by decide)) (by rfl) T.g_meet T.F_meet.kp T.b_meet .nil pass0 (pa_cons (pv 3) (pa_cons (pe_ix ix_seq (pv 0) (pv 4) (fun _ _ => rfl)) pa_nil))) pa_nil))))) pa_nil)))))
    (pss_one (ps_ret (pv 1))))),
  fn_body (N := N_begun) (n := 1) (k := 4) (ms := ms_begun) (tjs_seq (tjs_asgL (tjl_lst tjd_nil))
    (tjs_seq (tjs_for (kl := [2, 3]) (tji_enum (tjd_cons tj_var tjd_nil)) (tjg_tup (tjgs_cons tjg_name (tjgs_cons tjg_name tjgs_nil))) (tjs_ext (tj_frz (tjl_lc (tji_rng2 (tjd_cons (tj_op oj_add tj_var tj_int) (tjd_cons (tj_cb cj_len (tjd_cons tj_var tjd_nil)) tjd_nil))) (tjgr_name (by decide)) tjt_yes (tj_tup (tjd_cons (tj_frz (tjl_lst (tjd_cons tj_var (tjd_cons tj_var tjd_nil)))) (tjd_cons (tj_call (tja_cons tj_var (tja_cons (tj_op oj_ix tj_var tj_var) tja_nil))) tjd_nil)))))))
    tjs_retB)) rfl h⟩)
theorem ok_fits [PoC] (T : Facts K mg) : FnOk P w K mg base CX0 3 T.ad_fits T.fd_fits ["sets", "places", "core", "more"] (spF K 4 m_fits) :=
  T.F_fits.ok sc_fits (fun _ _ _ _ h => spF_len h) (fun cdv A outer s H vs Q E hr h => ⟨_, (pss_one (ps_ret (pe_cmpR (op_eqZ hr.units) (pe_lc (own := [("at", 4)]) (g := gName 4) rfl sc_fits.nd (pi_seqZ (pv 1)) (blkOk_by (N := N_fits) (sc := defScope st_fits) (by decide +kernel)) (fun _ _ _ _ _ => (pg_name (i := 4) sc_fits.nd rfl (by first | exact Or.inl rfl | exact Or.inr rfl))) (fun _ _ _ _ _ => (pts_one (pt_cmpR (op_neZ hr.units) (pe_call (ok_meet T) (hr.mono (by decide)) (by rfl) T.g_meet T.F_meet.kp T.b_meet .nil pass0 (pa_cons (pe_ix ix_seq (pv 0) (pv 4) (fun _ _ => rfl)) (pa_cons (pe_ix ix_seq (pv 0) (pv 3) (fun _ _ => rfl)) pa_nil))) (pv 2) (nomark _)))) (fun _ _ _ _ _ => (pv 4))) (pe_lst pa_nil) (nomark _)))),
  fn_body (N := N_fits) (n := 4) (k := 1) (ms := ms_fits) (tjs_ret (tj_op oj_eq (tj_frz (tjl_lc (tji_seq tj_var) (tjgr_name (by decide)) (tjt_test (tj_op oj_ne (tj_call (tja_cons (tj_op oj_ix tj_var tj_var) (tja_cons (tj_op oj_ix tj_var tj_var) tja_nil))) tj_var)) tj_var)) (tj_frz (tjl_lst tjd_nil)))) rfl h⟩)
theorem ok_grown [PoC] (T : Facts K mg) : FnOk P w K mg base CX0 4 T.ad_grown T.fd_grown ["sets", "flowers"] (spF K 2 m_grown) :=
  T.F_grown.ok sc_grown (fun _ _ _ _ h => spF_len h) (fun cdv A outer s H vs Q E hr h => ⟨_, (pss_cons (ps_set (i := 2) sc_grown.nd rfl (by first | exact Or.inl rfl | exact Or.inr rfl) (pe_lst pa_nil))
    (pss_cons (ps_for PassesOwn.never rfl (pi_seqZ (pv 1)) (pg_tup rfl (pgs_cons (pg_name (i := 3) sc_grown.nd rfl (by first | exact Or.inl rfl | exact Or.inr rfl)) (pgs_cons (pg_name (i := 4) sc_grown.nd rfl (by first | exact Or.inl rfl | exact Or.inr rfl)) pgs_nil))) (pss_one (ps_for PassesOwn.never rfl (pi_range2 (by rfl) T.n_range (pa_cons (pe_op op_addZ (pe_ix ix_seq (pv 3) (pe_un un_neg pe_int) (fun _ _ => rfl)) pe_int) (pa_cons (pe_callB call_len (by rfl) T.n_len (by decide +kernel) (pa_cons (pv 0) pa_nil)) pa_nil))) (pg_name (i := 5) sc_grown.nd rfl (by first | exact Or.inl rfl | exact Or.inr rfl)) (pss_one (ps_if (pt_truth (pe_call (ok_fits T) (hr.mono (by decide)) (by rfl) T.g_fits T.F_fits.kp T.b_fits .nil pass0 (pa_cons (pv 0) (pa_cons (pv 3) (pa_cons (pv 4) (pa_cons (pv 5) pa_nil))))) (by intro _; rfl)) (pss_one (ps_expr (pe_bm PySem.F.plainAttrs_list PySem.F.slot_list_append PySem.F.type_list_append mt_append (pv 2) (pa_cons (pe_tup (pa_cons (pe_op op_addZ (pv 3) (pe_lst (pa_cons (pv 5) pa_nil))) (pa_cons (pv 4) pa_nil))) pa_nil)))) pss_nil)))))
    (pss_one (ps_ret (pv 2))))),
  fn_body (N := N_grown) (n := 2) (k := 4) (ms := ms_grown) (tjs_seq (tjs_asgL (tjl_lst tjd_nil))
    (tjs_seq (tjs_for (kl := [3, 4, 5]) (tji_seq tj_var) (tjg_tup (tjgs_cons tjg_name (tjgs_cons tjg_name tjgs_nil))) (tjs_for (kl := [5]) (tji_rng2 (tjd_cons (tj_op oj_add (tj_op oj_ix tj_var (tj_un uj_neg tj_int)) tj_int) (tjd_cons (tj_cb cj_len (tjd_cons tj_var tjd_nil)) tjd_nil))) tjg_name (tjs_if (tjt_truth (tj_call (tja_cons tj_var (tja_cons tj_var (tja_cons tj_var (tja_cons tj_var tja_nil)))))) (tjs_app (tj_tup (tjd_cons (tj_op oj_add tj_var (tj_frz (tjl_lst (tjd_cons tj_var tjd_nil)))) (tjd_cons tj_var tjd_nil)))) tjs_nil)))
    tjs_retB)) rfl h⟩)
theorem ok_flowers_of [PoC] (T : Facts K mg) : FnOk P w K mg base CX0 5 T.ad_flowers_of T.fd_flowers_of ["sets", "many"] (spF K 2 m_flowers_of) :=
  T.F_flowers_of.ok sc_flowers_of (fun _ _ _ _ h => spF_len h) (fun cdv A outer s H vs Q E hr h => ⟨_, (pss_cons (ps_set (i := 2) sc_flowers_of.nd rfl (by first | exact Or.inl rfl | exact Or.inr rfl) (pe_call (ok_begun T) (hr.mono (by decide)) (by rfl) T.g_begun T.F_begun.kp T.b_begun .nil pass0 (pa_cons (pv 0) pa_nil)))
    (pss_cons (ps_for PassesOwn.never rfl (pi_range1 (by rfl) T.n_range (pa_cons (pe_op op_sub (pv 1) pe_int) pa_nil)) (pg_name (i := 3) sc_flowers_of.nd rfl (by first | exact Or.inl rfl | exact Or.inr rfl)) (pss_one (ps_set (i := 2) sc_flowers_of.nd rfl (by first | exact Or.inl rfl | exact Or.inr rfl) (pe_call (ok_grown T) (hr.mono (by decide)) (by rfl) T.g_grown T.F_grown.kp T.b_grown .nil pass0 (pa_cons (pv 0) (pa_cons (pv 2) pa_nil))))))
    (pss_one (ps_ret (pv 2))))),
  fn_body (N := N_flowers_of) (n := 2) (k := 2) (ms := ms_flowers_of) (tjs_seq (tjs_asg (tj_call (tja_cons tj_var tja_nil)))
    (tjs_seq (tjs_for (kl := [3]) (tji_rng1 (tjd_cons (tj_op oj_sub tj_var tj_int) tjd_nil)) tjg_name (tjs_asg (tj_call (tja_cons tj_var (tja_cons tj_var tja_nil)))))
    (tjs_ret tj_var))) rfl h⟩)
theorem ok_next_level [PoC] (T : Facts K mg) : FnOk P w K mg base CX0 6 T.ad_next_level T.fd_next_level ["sets", "many"] (spF K 2 m_next_level) :=
  T.F_next_level.ok sc_next_level (fun _ _ _ _ h => spF_len h) (fun cdv A outer s H vs Q E hr h => ⟨_, (pss_cons (ps_set (i := 2) sc_next_level.nd rfl (by first | exact Or.inl rfl | exact Or.inr rfl) (pe_call (ok_flowers_of T) (hr.mono (by decide)) (by rfl) T.g_flowers_of T.F_flowers_of.kp T.b_flowers_of .nil pass0 (pa_cons (pv 0) (pa_cons (pv 1) pa_nil))))
    (pss_cons (ps_set (i := 3) sc_next_level.nd rfl (by first | exact Or.inl rfl | exact Or.inr rfl) pe_dnewK)
    (pss_cons (ps_for PassesOwn.never rfl (pi_seqZ (pv 2)) (pg_tup rfl (pgs_cons (pg_name (i := 4) sc_next_level.nd rfl (by first | exact Or.inl rfl | exact Or.inr rfl)) (pgs_cons (pg_name (i := 5) sc_next_level.nd rfl (by first | exact Or.inl rfl | exact Or.inr rfl)) pgs_nil))) (pss_one (ps_for PassesOwn.never rfl (pi_seqZ (pv 4)) (pg_name (i := 6) sc_next_level.nd rfl (by first | exact Or.inl rfl | exact Or.inr rfl)) (pss_one (ps_dput hr.units1 (pv 3) (pv 6) pe_bl rfl)))))
    (pss_cons (ps_setLc (i := 7) (own := [("place", 6), ("one", 8)]) (g := gTup _ 2 (gCons (gName 6) (gCons (gName 8) gNil)))  rfl sc_next_level.nd rfl rfl (sw_true rfl rfl rfl (by decide +kernel)) (pi_enumZ (by rfl) T.n_enumerate (pa_cons (pv 0) pa_nil)) (blkOk_by (N := N_next_level) (sc := defScope st_next_level) (by decide +kernel)) (fun _ _ _ _ _ => (pg_tup rfl (pgs_cons (pg_name (i := 6) sc_next_level.nd rfl (by first | exact Or.inl rfl | exact Or.inr rfl)) (pgs_cons (pg_name (i := 8) sc_next_level.nd rfl (by first | exact Or.inl rfl | exact Or.inr rfl)) pgs_nil)))) (fun _ _ _ _ _ => (pts_one (pt_cmp (pc_dnotin hr.units1 (pv 6) (pv 3))))) (fun _ _ _ _ _ => (pv 8)))
    (pss_one (ps_ret (pe_callTy call_tuple_of (by rfl) T.n_tuple (by decide +kernel) (pa_cons (pe_callSet (call_sortSet rfl hr.units) (by rfl) T.n_sorted (by decide +kernel) (by rfl) T.n_set (pa_cons (pe_op op_addZ (pv 7) (pe_lc (own := [("places", 4), ("core", 5)]) (g := gTup _ 2 (gCons (gName 4) (gCons (gName 5) gNil))) rfl sc_next_level.nd (pi_seqZ (pv 2)) (blkOk_by (N := N_next_level) (sc := defScope st_next_level) (by decide +kernel)) (fun _ _ _ _ _ => (pg_tup rfl (pgs_cons (pg_name (i := 4) sc_next_level.nd rfl (by first | exact Or.inl rfl | exact Or.inr rfl)) (pgs_cons (pg_name (i := 5) sc_next_level.nd rfl (by first | exact Or.inl rfl | exact Or.inr rfl)) pgs_nil)))) (fun _ _ _ _ _ => pts_nil) (fun _ _ _ _ _ => (pv 5)))) pa_nil)) pa_nil)))))))),
  fn_body (N := N_next_level) (n := 2) (k := 7) (ms := ms_next_level) (tjs_seq (tjs_asg (tj_call (tja_cons tj_var (tja_cons tj_var tja_nil))))
    (tjs_seq tjs_newK
    (tjs_seq (tjs_for (kl := [4]) (tji_seq tj_var) (tjg_tup (tjgs_cons tjg_name (tjgs_cons tjg_name tjgs_nil))) (tjs_for (kl := []) (tji_seq tj_var) tjg_name (tjs_dput tj_var tj_bl)))
    (tjs_seq (tjs_asg (tj_frz (tjl_lc (tji_enum (tjd_cons tj_var tjd_nil)) (tjgr_tup (tjgrs_cons (tjgr_name (by decide)) (tjgrs_cons (tjgr_name (by decide)) tjgrs_nil))) (tjt_b (tj_dnotin tj_var)) tj_var)))
    (tjs_ret (tj_cb cj_tupOf (tjd_cons (tj_frz (tjl_cb cjl_sortSet (tjd_cons (tj_op oj_add tj_var (tj_frz (tjl_lc (tji_seq tj_var) (tjgr_tup (tjgrs_cons (tjgr_name (by decide)) (tjgrs_cons (tjgr_name (by decide)) tjgrs_nil))) tjt_yes tj_var))) tjd_nil))) tjd_nil))))))) rfl h⟩)
theorem ok_levels_of [PoC] (T : Facts K mg) : FnOk P w K mg base CX0 7 T.ad_levels_of T.fd_levels_of ["sets", "many", "most"] (spF K 3 m_levels_of) :=
  T.F_levels_of.ok sc_levels_of (fun _ _ _ _ h => spF_len h) (fun cdv A outer s H vs Q E hr h => ⟨_, (pss_cons (ps_set (i := 3) sc_levels_of.nd rfl (by first | exact Or.inl rfl | exact Or.inr rfl) (pe_lst (pa_cons (pv 0) pa_nil)))
    (pss_cons (ps_while PassesOwn.never (pt_cmpR (op_ltZ hr.units) (pe_callB call_len (by rfl) T.n_len (by decide +kernel) (pa_cons (pv 3) pa_nil)) (pv 2) (nomark _)) (pss_cons (ps_set (i := 4) sc_levels_of.nd rfl (by first | exact Or.inl rfl | exact Or.inr rfl) (pe_call (ok_next_level T) (hr.mono (by decide)) (by rfl) T.g_next_level T.F_next_level.kp T.b_next_level .nil pass0 (pa_cons (pe_ix ix_seq (pv 3) (pe_un un_neg pe_int) (fun _ _ => rfl)) (pa_cons (pv 1) pa_nil))))
    (pss_cons (ps_if (pt_cmpR (op_eqZ hr.units) (pv 4) (pe_ix ix_seq (pv 3) (pe_un un_neg pe_int) (fun _ _ => rfl)) (nomark _)) (pss_one (ps_ret (pv 3))) pss_nil)
    (pss_one (ps_expr (pe_bm PySem.F.plainAttrs_list PySem.F.slot_list_append PySem.F.type_list_append mt_append (pv 3) (pa_cons (pv 4) pa_nil)))))))
    (pss_one (ps_ret (pv 3))))),
  fn_body (N := N_levels_of) (n := 3) (k := 2) (ms := ms_levels_of) (tjs_seq (tjs_asgL (tjl_lst (tjd_cons tj_var tjd_nil)))
    (tjs_seq (tjs_while (kl := [4]) (tjt_lend (tjt_test (tj_op oj_lt (tj_cb cj_len (tjd_cons tj_var tjd_nil)) tj_var))) (tjs_seq (tjs_asg (tj_lend (tj_call (tja_cons (tj_op oj_ix tj_var (tj_un uj_neg tj_int)) (tja_cons tj_var tja_nil)))))
    (tjs_seq (tjs_if (tjt_lend (tjt_test (tj_op oj_eq tj_var (tj_op oj_ix tj_var (tj_un uj_neg tj_int))))) tjs_retB tjs_nil)
    (tjs_app tj_var))))
    tjs_retB)) rfl h⟩)
theorem ok_law_same [PoC] (T : Facts K mg) : ∀ d : Nat, FnOk P w K mg base CX0 (1 + d) T.ad_law_same T.fd_law_same ["found", "due"] (spF K 2 (m_law_same d))
  | 0 => T.F_law_same.ok sc_law_same (fun _ _ _ _ h => spF_len h) (fun cdv A outer s H vs Q E hr h => (spF_fail h).elim)
  | d + 1 => by
    have IH := ok_law_same T d
    exact T.F_law_same.ok sc_law_same (fun _ _ _ _ h => spF_len h) (fun cdv A outer s H vs Q E hr h => ⟨_, (pss_cons (ps_if (pt_cmpR op_isN (pv 1) pe_non (nomark _)) (pss_one (ps_ret (pe_cmpR op_isN (pv 0) pe_non (nomark _)))) pss_nil)
    (pss_cons (ps_if (pt_truth (pe_callB call_isi (by rfl) T.n_isinstance (by decide +kernel) (pa_cons (pv 1) (pa_cons (pe_bltn (v := .ty (Cl.nm .tuple)) (by rfl) T.n_tuple (by decide +kernel) rfl) pa_nil))) (by intro _; rfl)) (pss_cons (ps_if (PW.pt (pw_or (pt_not (pt_truth (pe_callB call_isi (by rfl) T.n_isinstance (by decide +kernel) (pa_cons (pv 0) (pa_cons (pe_bltn (v := .ty (Cl.nm .tuple)) (by rfl) T.n_tuple (by decide +kernel) rfl) pa_nil))) (by intro _; rfl))) (pw_or1 (pt_cmpR (op_neZ hr.units) (pe_callB call_len (by rfl) T.n_len (by decide +kernel) (pa_cons (pv 0) pa_nil)) (pe_callB call_len (by rfl) T.n_len (by decide +kernel) (pa_cons (pv 1) pa_nil)) (nomark _))))) (pss_one (ps_ret pe_bl)) pss_nil)
    (pss_one (ps_ret (pe_cmpR (op_eqZ hr.units) (pe_lc (own := [("one", 2), ("other", 3)]) (g := gTup _ 2 (gCons (gName 2) (gCons (gName 3) gNil))) rfl sc_law_same.nd (RZ.pi_zipA (by rfl) T.n_zip (pa_cons (pv 0) (pa_cons (pv 1) pa_nil))) (blkOk_by (N := N_law_same) (sc := defScope st_law_same) (by decide +kernel)) (fun _ _ _ _ _ => (pg_tup rfl (pgs_cons (pg_name (i := 2) sc_law_same.nd rfl (by first | exact Or.inl rfl | exact Or.inr rfl)) (pgs_cons (pg_name (i := 3) sc_law_same.nd rfl (by first | exact Or.inl rfl | exact Or.inr rfl)) pgs_nil)))) (fun _ _ _ _ _ => (pts_one (pt_not (pt_truth (pe_call IH hr (by rfl) T.g_law_same T.F_law_same.kp T.b_law_same .nil pass0 (pa_cons (pv 2) (pa_cons (pv 3) pa_nil))) (by intro _; rfl))))) (fun _ _ _ _ _ => pe_int)) (pe_lst pa_nil) (nomark _))))) pss_nil)
    (pss_cons (ps_if (pt_truth (pe_callB call_isi (by rfl) T.n_isinstance (by decide +kernel) (pa_cons (pv 1) (pa_cons (pe_bltn (v := .ty (Cl.nm .str)) (by rfl) T.n_str (by decide +kernel) rfl) pa_nil))) (by intro _; rfl)) (pss_one (ps_ret (pe_and (pe_callB call_isi (by rfl) T.n_isinstance (by decide +kernel) (pa_cons (pv 0) (pa_cons (pe_bltn (v := .ty (Cl.nm .str)) (by rfl) T.n_str (by decide +kernel) rfl) pa_nil))) (pe_one (pe_cmpR (op_eqZ hr.units) (pv 0) (pv 1) (nomark _)))))) pss_nil)
    (pss_one (ps_ret (pe_and (pe_callB call_isi (by rfl) T.n_isinstance (by decide +kernel) (pa_cons (pv 0) (pa_cons (pe_bltn (v := .ty (Cl.nm .int)) (by rfl) T.n_int (by decide +kernel) rfl) pa_nil))) (pe_and (pe_not (pe_callB call_isi (by rfl) T.n_isinstance (by decide +kernel) (pa_cons (pv 0) (pa_cons (pe_bltn (v := .ty (Cl.nm .bool)) (by rfl) T.n_bool (by decide +kernel) rfl) pa_nil)))) (pe_one (pe_cmpR (op_eqZ hr.units) (pv 0) (pv 1) (nomark _)))))))))),
  fn_body (N := N_law_same) (n := 2) (k := 2) (ms := ms_law_same (m_law_same d)) (tjs_seq (tjs_if (tjt_test (tj_op oj_isN tj_var tj_non)) (tjs_ret (tj_op oj_isN tj_var tj_non)) tjs_nil)
    (tjs_seq (tjs_if (tjt_truth (tj_isi (c := .tuple) tj_var)) (tjs_seq (tjs_if (tjt_or (tjt_not (tjt_truth (tj_isi (c := .tuple) tj_var))) (tjt_test (tj_op oj_ne (tj_cb cj_len (tjd_cons tj_var tjd_nil)) (tj_cb cj_len (tjd_cons tj_var tjd_nil))))) (tjs_ret tj_bl) tjs_nil)
    (tjs_ret (tj_op oj_eq (tj_frz (tjl_lc (tji_zip (tjd_cons tj_var (tjd_cons tj_var tjd_nil))) (tjgr_tup (tjgrs_cons (tjgr_name (by decide)) (tjgrs_cons (tjgr_name (by decide)) tjgrs_nil))) (tjt_not (tjt_truth (tj_call (tja_cons tj_var (tja_cons tj_var tja_nil))))) tj_int)) (tj_frz (tjl_lst tjd_nil))))) tjs_nil)
    (tjs_seq (tjs_if (tjt_truth (tj_isi (c := .str) tj_var)) (tjs_ret (tj_andV (tj_isi (c := .str) tj_var) (tj_op oj_eq tj_var tj_var))) tjs_nil)
    (tjs_ret (tj_andV (tj_isi (c := .int) tj_var) (tj_andV (tj_notV (tj_isi (c := .bool) tj_var)) (tj_op oj_eq tj_var tj_var))))))) rfl h⟩)
theorem ok_law_right [PoC] (T : Facts K mg) : FnOk P w K mg base CX0 11 T.ad_law_right T.fd_law_right ["found", "due"] (spF K 2 m_law_right) :=
  T.F_law_right.ok sc_law_right (fun _ _ _ _ h => spF_len h) (fun cdv A outer s H vs Q E hr h => ⟨_, (pss_cons (ps_if (PW.pt (pw_or (pt_not (pt_truth (pe_callB call_isi (by rfl) T.n_isinstance (by decide +kernel) (pa_cons (pv 0) (pa_cons (pe_bltn (v := .ty (Cl.nm .list)) (by rfl) T.n_list (by decide +kernel) rfl) pa_nil))) (by intro _; rfl))) (pw_or1 (pt_cmpR (op_neZ hr.units) (pe_callB call_len (by rfl) T.n_len (by decide +kernel) (pa_cons (pv 0) pa_nil)) (pe_callB call_len (by rfl) T.n_len (by decide +kernel) (pa_cons (pv 1) pa_nil)) (nomark _))))) (pss_one (ps_ret pe_bl)) pss_nil)
    (pss_one (ps_ret (pe_cmpR (op_eqZ hr.units) (pe_lc (own := [("one", 2), ("other", 3)]) (g := gTup _ 2 (gCons (gName 2) (gCons (gName 3) gNil))) rfl sc_law_right.nd (RZ.pi_zipA (by rfl) T.n_zip (pa_cons (pv 0) (pa_cons (pv 1) pa_nil))) (blkOk_by (N := N_law_right) (sc := defScope st_law_right) (by decide +kernel)) (fun _ _ _ _ _ => (pg_tup rfl (pgs_cons (pg_name (i := 2) sc_law_right.nd rfl (by first | exact Or.inl rfl | exact Or.inr rfl)) (pgs_cons (pg_name (i := 3) sc_law_right.nd rfl (by first | exact Or.inl rfl | exact Or.inr rfl)) pgs_nil)))) (fun _ _ _ _ _ => (pts_one (pt_not (pt_truth (pe_call (ok_law_same T 8) (hr.mono (by decide)) (by rfl) T.g_law_same T.F_law_same.kp T.b_law_same .nil pass0 (pa_cons (pv 2) (pa_cons (pv 3) pa_nil))) (by intro _; rfl))))) (fun _ _ _ _ _ => pe_int)) (pe_lst pa_nil) (nomark _))))),
  fn_body (N := N_law_right) (n := 2) (k := 2) (ms := ms_law_right) (tjs_seq (tjs_if (tjt_or (tjt_not (tjt_truth (tj_isi (c := .list) tj_var))) (tjt_test (tj_op oj_ne (tj_cb cj_len (tjd_cons tj_var tjd_nil)) (tj_cb cj_len (tjd_cons tj_var tjd_nil))))) (tjs_ret tj_bl) tjs_nil)
    (tjs_ret (tj_op oj_eq (tj_frz (tjl_lc (tji_zip (tjd_cons tj_var (tjd_cons tj_var tjd_nil))) (tjgr_tup (tjgrs_cons (tjgr_name (by decide)) (tjgrs_cons (tjgr_name (by decide)) tjgrs_nil))) (tjt_not (tjt_truth (tj_call (tja_cons tj_var (tja_cons tj_var tja_nil))))) tj_int)) (tj_frz (tjl_lst tjd_nil))))) rfl h⟩)
theorem ok_law (hL : Z.NoL K) (T : Facts K mg) : FnOk P w K mg base CX0 12 T.ad_law T.fd_law ["script"] (spLawB K) := by
  refine T.F_law.ok sc_law (fun vs H Q E h => by obtain ⟨a, ns, rfl, _⟩ := h; rfl) (fun cdv A outer s H vs Q E hr h => ?_)
  obtain ⟨a, ns, rfl, hS, hl, hb, q⟩ := h
  have hf : ∃ te, PS (cxOf CX0 P w K mg base N_law "law" (defScope st_law) T.ad_law cdv A outer s H E).nox ((defBody st_law).getD 0 (.Pass ⟨0, 0, 0, 0⟩)) (tAsg te (gName 1)) ∧ @TJL inst0 K te ml_law := by
    letI := inst0
    exact ⟨_, (ps_set (i := 1) sc_law.nd rfl (by first | exact Or.inl rfl | exact Or.inr rfl) (pe_call (ok_law_deck T) (hr.mono (by decide)) (by rfl) T.g_law_deck T.F_law_deck.kp T.b_law_deck .nil pass0 (pa_cons (pv 0) pa_nil))), (tjl_call (tja_cons tj_var tja_nil))⟩
  have hr2 : ∀ i : Pix K ns, ∃ t, PSs (cxOf CX0 P w K mg base N_law "law" (defScope st_law) T.ad_law cdv A outer s H E).nox ((defBody st_law).drop 1) t ∧ @TJSN i.draI i.draF c_law K t ms_law := fun i => by
    letI := i.draI
    letI := i.draF
    have hP := i.W hl
    exact ⟨_, (pss_cons (ps_for PassesOwn.never rfl (pi_range1 (by rfl) T.n_range (pa_cons pe_int pa_nil)) (pg_name (i := 2) sc_law.nd rfl (by first | exact Or.inl rfl | exact Or.inr rfl)) (pss_cons (ps_set (i := 3) sc_law.nd rfl (by first | exact Or.inl rfl | exact Or.inr rfl) (pe_callTy call_int1 (by rfl) T.n_int (by decide +kernel) (pa_cons (pe_and (pe_cmpR (op_eqZ hr.units) (pv 2) pe_int (nomark _)) (pe_one (pe_cmpR (op_eqZ hr.units) (pe_call (ok_law_draw hP T) (hr.mono (by decide)) (by rfl) T.g_law_draw T.F_law_draw.kp T.b_law_draw .nil pass0 (pa_cons (pv 1) (pa_cons pe_int pa_nil))) pe_int (nomark _)))) pa_nil)))
    (pss_cons (ps_set (i := 4) sc_law.nd rfl (by first | exact Or.inl rfl | exact Or.inr rfl) (pe_call (ok_law_sets hP T) (hr.mono (by decide)) (by rfl) T.g_law_sets T.F_law_sets.kp T.b_law_sets .nil pass0 (pa_cons (pv 1) (pa_cons (pe_ix ix_seq (pe_lst (pa_cons pe_int (pa_cons pe_int (pa_cons pe_int (pa_cons pe_int pa_nil))))) (pe_op op_addZ (pv 2) (pv 3)) (fun _ _ => rfl)) (pa_cons (pe_op op_addZ pe_int (pe_op op_mulZ pe_int (pv 3))) pa_nil)))))
    (pss_cons (ps_set (i := 5) sc_law.nd rfl (by first | exact Or.inl rfl | exact Or.inr rfl) (pe_ix ix_seq (pe_lst (pa_cons pe_int (pa_cons pe_int (pa_cons (pe_op op_addZ pe_int (pe_call (ok_law_draw hP T) (hr.mono (by decide)) (by rfl) T.g_law_draw T.F_law_draw.kp T.b_law_draw .nil pass0 (pa_cons (pv 1) (pa_cons pe_int pa_nil)))) pa_nil)))) (pe_call (ok_law_draw hP T) (hr.mono (by decide)) (by rfl) T.g_law_draw T.F_law_draw.kp T.b_law_draw .nil pass0 (pa_cons (pv 1) (pa_cons pe_int pa_nil))) (fun _ _ => rfl)))
    (pss_cons (ps_set (i := 6) sc_law.nd rfl (by first | exact Or.inl rfl | exact Or.inr rfl) (pe_ix ix_seq (pe_lst (pa_cons (pe_op op_addZ pe_int (pe_call (ok_law_draw hP T) (hr.mono (by decide)) (by rfl) T.g_law_draw T.F_law_draw.kp T.b_law_draw .nil pass0 (pa_cons (pv 1) (pa_cons pe_int pa_nil)))) (pa_cons pe_int (pa_cons (pe_op op_addZ pe_int (pe_op op_mulZ (pe_call (ok_law_draw hP T) (hr.mono (by decide)) (by rfl) T.g_law_draw T.F_law_draw.kp T.b_law_draw .nil pass0 (pa_cons (pv 1) (pa_cons (pe_op op_pow pe_int pe_int) pa_nil))) (pe_op op_pow pe_int pe_int))) pa_nil)))) (pe_call (ok_law_draw hP T) (hr.mono (by decide)) (by rfl) T.g_law_draw T.F_law_draw.kp T.b_law_draw .nil pass0 (pa_cons (pv 1) (pa_cons pe_int pa_nil))) (fun _ _ => rfl)))
    (pss_cons (ps_set (i := 7) sc_law.nd rfl (by first | exact Or.inl rfl | exact Or.inr rfl) (pe_call (ok_law_due T) (hr.mono (by decide)) (by rfl) T.g_law_due T.F_law_due.kp T.b_law_due .nil pass0 (pa_cons (pv 4) (pa_cons (pv 5) (pa_cons (pv 6) pa_nil)))))
    (pss_cons (ps_set (i := 8) sc_law.nd rfl (by first | exact Or.inl rfl | exact Or.inr rfl) (pe_call (ok_levels_of T) (hr.mono (by decide)) (by rfl) T.g_levels_of T.F_levels_of.kp T.b_levels_of .nil pass0 (pa_cons (pv 4) (pa_cons (pv 5) (pa_cons (pv 6) pa_nil)))))
    (pss_cons (ps_if (pt_not (pt_truth (pe_call (ok_law_right T) (hr.mono (by decide)) (by rfl) T.g_law_right T.F_law_right.kp T.b_law_right .nil pass0 (pa_cons (pv 8) (pa_cons (pv 7) pa_nil))) (by intro _; rfl))) (pss_one (ps_ret pe_bl)) pss_nil)
    (pss_cons (ps_expr (pe_bm PySem.F.plainAttrs_list PySem.F.slot_list_append PySem.F.type_list_append mt_append (pv 8) (pa_cons (pe_tup pa_nil) pa_nil)))
    (pss_cons (ps_asg (pe_tup pa_nil) (pg_sub (pv 8) pe_int set_list))
    (pss_one (ps_if (pt_not (pt_truth (pe_call (ok_law_right T) (hr.mono (by decide)) (by rfl) T.g_law_right T.F_law_right.kp T.b_law_right .nil pass0 (pa_cons (pe_call (ok_levels_of T) (hr.mono (by decide)) (by rfl) T.g_levels_of T.F_levels_of.kp T.b_levels_of .nil pass0 (pa_cons (pv 4) (pa_cons (pv 5) (pa_cons (pv 6) pa_nil)))) (pa_cons (pv 7) pa_nil))) (by intro _; rfl))) (pss_one (ps_ret pe_bl)) pss_nil))))))))))))
    (pss_one (ps_ret (pe_and (pe_cmpR (op_eqZ hr.units) (pe_call (ok_levels_of T) (hr.mono (by decide)) (by rfl) T.g_levels_of T.F_levels_of.kp T.b_levels_of .nil pass0 (pa_cons (pe_tup pa_nil) (pa_cons pe_int (pa_cons pe_int pa_nil)))) (pe_lst (pa_cons (pe_tup pa_nil) pa_nil)) (nomark _)) (pe_one (pe_cmpR (op_eqZ hr.units) (pe_call (ok_levels_of T) (hr.mono (by decide)) (by rfl) T.g_levels_of T.F_levels_of.kp T.b_levels_of .nil pass0 (pa_cons (pe_tup (pa_cons (pe_tup (pa_cons pe_str pa_nil)) (pa_cons (pe_tup (pa_cons pe_str pa_nil)) pa_nil))) (pa_cons pe_int (pa_cons pe_int pa_nil)))) (pe_lst (pa_cons (pe_tup (pa_cons (pe_tup (pa_cons pe_str pa_nil)) (pa_cons (pe_tup (pa_cons pe_str pa_nil)) pa_nil))) (pa_cons (pe_tup (pa_cons (pe_tup pa_nil) pa_nil)) pa_nil))) (nomark _))))))),
      tjsn_is (tjsn_seq (tjsn_for (kl := [2, 3, 4, 5, 6, 7, 8]) (tjin_of (tji_rng1 (tjd_cons tj_int tjd_nil))) tjg_name (tjsn_seq (tjsn_asg (tjn_cb cj_int1 (tjdn_cons (tjn_andV (tjn_of (tj_op oj_eq tj_var tj_int)) (tjn_op oj_eq (tjn_call (tjan_opq (tjan_of (tja_cons tj_int tja_nil)))) (tjn_of tj_int))) (tjdn_of tjd_nil)))) (tjsn_seq (tjsn_asg (tjn_call (tjan_opq (tjan_of (tja_cons (tj_op oj_ix (tj_frz (tjl_lst (tjd_cons tj_int (tjd_cons tj_int (tjd_cons tj_int (tjd_cons tj_int tjd_nil)))))) (tj_op oj_add tj_var tj_var)) (tja_cons (tj_op oj_add tj_int (tj_op oj_mul tj_int tj_var)) tja_nil)))))) (tjsn_seq (tjsn_asg (tjn_op oj_ix (tjn_frz (tjln_lst (tjdn_cons (tjn_of tj_int) (tjdn_cons (tjn_of tj_int) (tjdn_cons (tjn_op oj_add (tjn_of tj_int) (tjn_call (tjan_opq (tjan_of (tja_cons tj_int tja_nil))))) (tjdn_of tjd_nil)))))) (tjn_call (tjan_opq (tjan_of (tja_cons tj_int tja_nil)))))) (tjsn_seq (tjsn_asg (tjn_op oj_ix (tjn_frz (tjln_lst (tjdn_cons (tjn_op oj_add (tjn_of tj_int) (tjn_call (tjan_opq (tjan_of (tja_cons tj_int tja_nil))))) (tjdn_cons (tjn_of tj_int) (tjdn_cons (tjn_op oj_add (tjn_of tj_int) (tjn_op oj_mul (tjn_call (tjan_opq (tjan_of (tja_cons (tj_op oj_pow tj_int tj_int) tja_nil)))) (tjn_of (tj_op oj_pow tj_int tj_int)))) (tjdn_of tjd_nil)))))) (tjn_call (tjan_opq (tjan_of (tja_cons tj_int tja_nil)))))) (tjsn_of (tjs_seq (tjs_asg (tj_call (tja_cons tj_var (tja_cons tj_var (tja_cons tj_var tja_nil))))) (tjs_seq (tjs_asgL (tjl_call (tja_cons tj_var (tja_cons tj_var (tja_cons tj_var tja_nil))))) (tjs_seq (tjs_if (tjt_lend (tjt_not (tjt_truth (tj_call (tja_cons tj_var (tja_cons tj_var tja_nil)))))) (tjs_ret tj_bl) tjs_nil) (tjs_seq (tjs_app (tj_tup tjd_nil)) (tjs_seq (tjs_setI (tj_tup tjd_nil) tj_int) (tjs_if (tjt_not (tjt_truth (tj_call (tja_cons (tj_call (tja_cons tj_var (tja_cons tj_var (tja_cons tj_var tja_nil)))) (tja_cons tj_var tja_nil))))) (tjs_ret tj_bl) tjs_nil)))))))))))) (tjsn_of (tjs_ret (tj_andV (tj_op oj_eq (tj_call (tja_cons (tj_tup tjd_nil) (tja_cons tj_int (tja_cons tj_int tja_nil)))) (tj_frz (tjl_lst (tjd_cons (tj_tup tjd_nil) tjd_nil)))) (tj_op oj_eq (tj_call (tja_cons (tj_tup (tjd_cons (tj_tup (tjd_cons tj_str tjd_nil)) (tjd_cons (tj_tup (tjd_cons tj_str tjd_nil)) tjd_nil))) (tja_cons tj_int (tja_cons tj_int tja_nil)))) (tj_frz (tjl_lst (tjd_cons (tj_tup (tjd_cons (tj_tup (tjd_cons tj_str tjd_nil)) (tjd_cons (tj_tup (tjd_cons tj_str tjd_nil)) tjd_nil))) (tjd_cons (tj_tup (tjd_cons (tj_tup tjd_nil) tjd_nil)) tjd_nil))))))))) rfl⟩
  obtain ⟨te, f1, f2⟩ := hf
  obtain ⟨tr, h2⟩ := Classical.axiomOfChoice hr2
  exact ⟨_, pss_cons f1 (pss_ex fun i => (h2 i).1), law_bodyW hL (N := N_law) c_law_le rfl f2 (fun i => (h2 i).2) hS q (law_first ns hl hb) (law_plain ns hl)⟩
end
theorem all_mk {l : PySem.W.OpenLaw} {w : World} {K : PySem.W.Frag} {h : Heap} {mg : Str → Option Value} {fa : Addr} (hL : Z.NoL K) (X : K.In h) (G : h.Ns mainGlobals mg) (hfa : mg "law" = some (.ref fa))
    {f0 : Addr} {od0 an0 : Option Addr} {sl0 : Array (Option Value)} {oc0 kV0 dc0 pm0 cd0 ct0 : Value}
    {f1 : Addr} {od1 an1 : Option Addr} {sl1 : Array (Option Value)} {oc1 kV1 dc1 pm1 cd1 ct1 : Value}
    {f2 : Addr} {od2 an2 : Option Addr} {sl2 : Array (Option Value)} {oc2 kV2 dc2 pm2 cd2 ct2 : Value}
    {f3 : Addr} {od3 an3 : Option Addr} {sl3 : Array (Option Value)} {oc3 kV3 dc3 pm3 cd3 ct3 : Value}
    {f4 : Addr} {od4 an4 : Option Addr} {sl4 : Array (Option Value)} {oc4 kV4 dc4 pm4 cd4 ct4 : Value}
    {f5 : Addr} {od5 an5 : Option Addr} {sl5 : Array (Option Value)} {oc5 kV5 dc5 pm5 cd5 ct5 : Value}
    {f6 : Addr} {od6 an6 : Option Addr} {sl6 : Array (Option Value)} {oc6 kV6 dc6 pm6 cd6 ct6 : Value}
    {f7 : Addr} {od7 an7 : Option Addr} {sl7 : Array (Option Value)} {oc7 kV7 dc7 pm7 cd7 ct7 : Value}
    {f8 : Addr} {od8 an8 : Option Addr} {sl8 : Array (Option Value)} {oc8 kV8 dc8 pm8 cd8 ct8 : Value}
    {f9 : Addr} {od9 an9 : Option Addr} {sl9 : Array (Option Value)} {oc9 kV9 dc9 pm9 cd9 ct9 : Value}
    {f10 : Addr} {od10 an10 : Option Addr} {sl10 : Array (Option Value)} {oc10 kV10 dc10 pm10 cd10 ct10 : Value}
    {f11 : Addr} {od11 an11 : Option Addr} {sl11 : Array (Option Value)} {oc11 kV11 dc11 pm11 cd11 ct11 : Value}
    {f12 : Addr} {od12 an12 : Option Addr} {sl12 : Array (Option Value)} {oc12 kV12 dc12 pm12 cd12 ct12 : Value}
    {f13 : Addr} {od13 an13 : Option Addr} {sl13 : Array (Option Value)} {oc13 kV13 dc13 pm13 cd13 ct13 : Value}
    {f14 : Addr} {od14 an14 : Option Addr} {sl14 : Array (Option Value)} {oc14 kV14 dc14 pm14 cd14 ct14 : Value}
    {f15 : Addr} {od15 an15 : Option Addr} {sl15 : Array (Option Value)} {oc15 kV15 dc15 pm15 cd15 ct15 : Value}
    {f16 : Addr} {od16 an16 : Option Addr} {sl16 : Array (Option Value)} {oc16 kV16 dc16 pm16 cd16 ct16 : Value}
    {f17 : Addr} {od17 an17 : Option Addr} {sl17 : Array (Option Value)} {oc17 kV17 dc17 pm17 cd17 ct17 : Value}
    (a0 : PySem.W.nsIn K mainGlobals "_law_deck" = some (some (.ref f0))) (l0 : K.lookup f0 = some ⟨oc0, od0, .func (PySem.W.fnOf "_law_deck" "_law_deck" (defArgs st_law_deck) (defBody st_law_deck) (defScope st_law_deck) .none kV0 dc0 pm0 an0 cd0 ct0), sl0⟩) (c0 : PySem.W.codeIn K cd0 "_law_deck" = true) (k0 : PySem.W.keepIn K (.ref f0) = true)
    (a1 : PySem.W.nsIn K mainGlobals "_law_draw" = some (some (.ref f1))) (l1 : K.lookup f1 = some ⟨oc1, od1, .func (PySem.W.fnOf "_law_draw" "_law_draw" (defArgs st_law_draw) (defBody st_law_draw) (defScope st_law_draw) .none kV1 dc1 pm1 an1 cd1 ct1), sl1⟩) (c1 : PySem.W.codeIn K cd1 "_law_draw" = true) (k1 : PySem.W.keepIn K (.ref f1) = true)
    (a2 : PySem.W.nsIn K mainGlobals "_law_names" = some (some (.ref f2))) (l2 : K.lookup f2 = some ⟨oc2, od2, .func (PySem.W.fnOf "_law_names" "_law_names" (defArgs st_law_names) (defBody st_law_names) (defScope st_law_names) .none kV2 dc2 pm2 an2 cd2 ct2), sl2⟩) (c2 : PySem.W.codeIn K cd2 "_law_names" = true) (k2 : PySem.W.keepIn K (.ref f2) = true)
    (a3 : PySem.W.nsIn K mainGlobals "_law_sets" = some (some (.ref f3))) (l3 : K.lookup f3 = some ⟨oc3, od3, .func (PySem.W.fnOf "_law_sets" "_law_sets" (defArgs st_law_sets) (defBody st_law_sets) (defScope st_law_sets) .none kV3 dc3 pm3 an3 cd3 ct3), sl3⟩) (c3 : PySem.W.codeIn K cd3 "_law_sets" = true) (k3 : PySem.W.keepIn K (.ref f3) = true)
    (a4 : PySem.W.nsIn K mainGlobals "_law_meet" = some (some (.ref f4))) (l4 : K.lookup f4 = some ⟨oc4, od4, .func (PySem.W.fnOf "_law_meet" "_law_meet" (defArgs st_law_meet) (defBody st_law_meet) (defScope st_law_meet) .none kV4 dc4 pm4 an4 cd4 ct4), sl4⟩) (c4 : PySem.W.codeIn K cd4 "_law_meet" = true) (k4 : PySem.W.keepIn K (.ref f4) = true)
    (a5 : PySem.W.nsIn K mainGlobals "_law_flowers" = some (some (.ref f5))) (l5 : K.lookup f5 = some ⟨oc5, od5, .func (PySem.W.fnOf "_law_flowers" "_law_flowers" (defArgs st_law_flowers) (defBody st_law_flowers) (defScope st_law_flowers) .none kV5 dc5 pm5 an5 cd5 ct5), sl5⟩) (c5 : PySem.W.codeIn K cd5 "_law_flowers" = true) (k5 : PySem.W.keepIn K (.ref f5) = true)
    (a6 : PySem.W.nsIn K mainGlobals "_law_next" = some (some (.ref f6))) (l6 : K.lookup f6 = some ⟨oc6, od6, .func (PySem.W.fnOf "_law_next" "_law_next" (defArgs st_law_next) (defBody st_law_next) (defScope st_law_next) .none kV6 dc6 pm6 an6 cd6 ct6), sl6⟩) (c6 : PySem.W.codeIn K cd6 "_law_next" = true) (k6 : PySem.W.keepIn K (.ref f6) = true)
    (a7 : PySem.W.nsIn K mainGlobals "_law_due" = some (some (.ref f7))) (l7 : K.lookup f7 = some ⟨oc7, od7, .func (PySem.W.fnOf "_law_due" "_law_due" (defArgs st_law_due) (defBody st_law_due) (defScope st_law_due) .none kV7 dc7 pm7 an7 cd7 ct7), sl7⟩) (c7 : PySem.W.codeIn K cd7 "_law_due" = true) (k7 : PySem.W.keepIn K (.ref f7) = true)
    (a8 : PySem.W.nsIn K mainGlobals "meet" = some (some (.ref f8))) (l8 : K.lookup f8 = some ⟨oc8, od8, .func (PySem.W.fnOf "meet" "meet" (defArgs st_meet) (defBody st_meet) (defScope st_meet) .none kV8 dc8 pm8 an8 cd8 ct8), sl8⟩) (c8 : PySem.W.codeIn K cd8 "meet" = true) (k8 : PySem.W.keepIn K (.ref f8) = true)
    (a9 : PySem.W.nsIn K mainGlobals "begun" = some (some (.ref f9))) (l9 : K.lookup f9 = some ⟨oc9, od9, .func (PySem.W.fnOf "begun" "begun" (defArgs st_begun) (defBody st_begun) (defScope st_begun) .none kV9 dc9 pm9 an9 cd9 ct9), sl9⟩) (c9 : PySem.W.codeIn K cd9 "begun" = true) (k9 : PySem.W.keepIn K (.ref f9) = true)
    (a10 : PySem.W.nsIn K mainGlobals "fits" = some (some (.ref f10))) (l10 : K.lookup f10 = some ⟨oc10, od10, .func (PySem.W.fnOf "fits" "fits" (defArgs st_fits) (defBody st_fits) (defScope st_fits) .none kV10 dc10 pm10 an10 cd10 ct10), sl10⟩) (c10 : PySem.W.codeIn K cd10 "fits" = true) (k10 : PySem.W.keepIn K (.ref f10) = true)
    (a11 : PySem.W.nsIn K mainGlobals "grown" = some (some (.ref f11))) (l11 : K.lookup f11 = some ⟨oc11, od11, .func (PySem.W.fnOf "grown" "grown" (defArgs st_grown) (defBody st_grown) (defScope st_grown) .none kV11 dc11 pm11 an11 cd11 ct11), sl11⟩) (c11 : PySem.W.codeIn K cd11 "grown" = true) (k11 : PySem.W.keepIn K (.ref f11) = true)
    (a12 : PySem.W.nsIn K mainGlobals "flowers_of" = some (some (.ref f12))) (l12 : K.lookup f12 = some ⟨oc12, od12, .func (PySem.W.fnOf "flowers_of" "flowers_of" (defArgs st_flowers_of) (defBody st_flowers_of) (defScope st_flowers_of) .none kV12 dc12 pm12 an12 cd12 ct12), sl12⟩) (c12 : PySem.W.codeIn K cd12 "flowers_of" = true) (k12 : PySem.W.keepIn K (.ref f12) = true)
    (a13 : PySem.W.nsIn K mainGlobals "next_level" = some (some (.ref f13))) (l13 : K.lookup f13 = some ⟨oc13, od13, .func (PySem.W.fnOf "next_level" "next_level" (defArgs st_next_level) (defBody st_next_level) (defScope st_next_level) .none kV13 dc13 pm13 an13 cd13 ct13), sl13⟩) (c13 : PySem.W.codeIn K cd13 "next_level" = true) (k13 : PySem.W.keepIn K (.ref f13) = true)
    (a14 : PySem.W.nsIn K mainGlobals "levels_of" = some (some (.ref f14))) (l14 : K.lookup f14 = some ⟨oc14, od14, .func (PySem.W.fnOf "levels_of" "levels_of" (defArgs st_levels_of) (defBody st_levels_of) (defScope st_levels_of) .none kV14 dc14 pm14 an14 cd14 ct14), sl14⟩) (c14 : PySem.W.codeIn K cd14 "levels_of" = true) (k14 : PySem.W.keepIn K (.ref f14) = true)
    (a15 : PySem.W.nsIn K mainGlobals "_law_same" = some (some (.ref f15))) (l15 : K.lookup f15 = some ⟨oc15, od15, .func (PySem.W.fnOf "_law_same" "_law_same" (defArgs st_law_same) (defBody st_law_same) (defScope st_law_same) .none kV15 dc15 pm15 an15 cd15 ct15), sl15⟩) (c15 : PySem.W.codeIn K cd15 "_law_same" = true) (k15 : PySem.W.keepIn K (.ref f15) = true)
    (a16 : PySem.W.nsIn K mainGlobals "_law_right" = some (some (.ref f16))) (l16 : K.lookup f16 = some ⟨oc16, od16, .func (PySem.W.fnOf "_law_right" "_law_right" (defArgs st_law_right) (defBody st_law_right) (defScope st_law_right) .none kV16 dc16 pm16 an16 cd16 ct16), sl16⟩) (c16 : PySem.W.codeIn K cd16 "_law_right" = true) (k16 : PySem.W.keepIn K (.ref f16) = true)
    (a17 : PySem.W.nsIn K mainGlobals "law" = some (some (.ref f17))) (l17 : K.lookup f17 = some ⟨oc17, od17, .func (PySem.W.fnOf "law" "law" (defArgs st_law) (defBody st_law) (defScope st_law) .none kV17 dc17 pm17 an17 cd17 ct17), sl17⟩) (c17 : PySem.W.codeIn K cd17 "law" = true) (k17 : PySem.W.keepIn K (.ref f17) = true)
    (z_abs : PySem.W.nsIn K mainGlobals "abs" = some none)
    (z_bool : PySem.W.nsIn K mainGlobals "bool" = some none)
    (z_enumerate : PySem.W.nsIn K mainGlobals "enumerate" = some none)
    (z_int : PySem.W.nsIn K mainGlobals "int" = some none)
    (z_isinstance : PySem.W.nsIn K mainGlobals "isinstance" = some none)
    (z_len : PySem.W.nsIn K mainGlobals "len" = some none)
    (z_list : PySem.W.nsIn K mainGlobals "list" = some none)
    (z_range : PySem.W.nsIn K mainGlobals "range" = some none)
    (z_set : PySem.W.nsIn K mainGlobals "set" = some none)
    (z_sorted : PySem.W.nsIn K mainGlobals "sorted" = some none)
    (z_str : PySem.W.nsIn K mainGlobals "str" = some none)
    (z_tuple : PySem.W.nsIn K mainGlobals "tuple" = some none)
    (z_zip : PySem.W.nsIn K mainGlobals "zip" = some none) :
    ∃ fd : FuncData, (∀ (s : Shared) (v : Value), BindsTo s fd ⟨[v], []⟩ [("script", v)]) ∧ ∀ base : Heap, K.In base → base.Ns mainGlobals mg → FnOk l.prog w K mg base CX0 12 fa fd ["script"] (spLawB K) := by
  have e := hfa.symm.trans (PySem.W.mg_of X G a17)
  cases e
  let T : Facts K mg := {
    ad_law_deck := f0, fd_law_deck := _, F_law_deck := fun_mk l0 c0 k0, g_law_deck := PySem.W.mg_of X G a0, b_law_deck := (fun_mk l0 c0 k0).binds (ps := ["script"]) (fun _ _ _ _ _ _ us hl => match us, hl with | [_], _ => rfl),
    ad_law_draw := f1, fd_law_draw := _, F_law_draw := fun_mk l1 c1 k1, g_law_draw := PySem.W.mg_of X G a1, b_law_draw := (fun_mk l1 c1 k1).binds (ps := ["deck", "most"]) (fun _ _ _ _ _ _ us hl => match us, hl with | [_, _], _ => rfl),
    ad_law_names := f2, fd_law_names := _, F_law_names := fun_mk l2 c2 k2, g_law_names := PySem.W.mg_of X G a2, b_law_names := (fun_mk l2 c2 k2).binds (ps := ["deck", "many"]) (fun _ _ _ _ _ _ us hl => match us, hl with | [_, _], _ => rfl),
    ad_law_sets := f3, fd_law_sets := _, F_law_sets := fun_mk l3 c3 k3, g_law_sets := PySem.W.mg_of X G a3, b_law_sets := (fun_mk l3 c3 k3).binds (ps := ["deck", "most", "wide"]) (fun _ _ _ _ _ _ us hl => match us, hl with | [_, _, _], _ => rfl),
    ad_law_meet := f4, fd_law_meet := _, F_law_meet := fun_mk l4 c4 k4, g_law_meet := PySem.W.mg_of X G a4, b_law_meet := (fun_mk l4 c4 k4).binds (ps := ["one", "other"]) (fun _ _ _ _ _ _ us hl => match us, hl with | [_, _], _ => rfl),
    ad_law_flowers := f5, fd_law_flowers := _, F_law_flowers := fun_mk l5 c5 k5, g_law_flowers := PySem.W.mg_of X G a5, b_law_flowers := (fun_mk l5 c5 k5).binds (ps := ["sets", "many"]) (fun _ _ _ _ _ _ us hl => match us, hl with | [_, _], _ => rfl),
    ad_law_next := f6, fd_law_next := _, F_law_next := fun_mk l6 c6 k6, g_law_next := PySem.W.mg_of X G a6, b_law_next := (fun_mk l6 c6 k6).binds (ps := ["sets", "many"]) (fun _ _ _ _ _ _ us hl => match us, hl with | [_, _], _ => rfl),
    ad_law_due := f7, fd_law_due := _, F_law_due := fun_mk l7 c7 k7, g_law_due := PySem.W.mg_of X G a7, b_law_due := (fun_mk l7 c7 k7).binds (ps := ["sets", "many", "most"]) (fun _ _ _ _ _ _ us hl => match us, hl with | [_, _, _], _ => rfl),
    ad_meet := f8, fd_meet := _, F_meet := fun_mk l8 c8 k8, g_meet := PySem.W.mg_of X G a8, b_meet := (fun_mk l8 c8 k8).binds (ps := ["one", "other"]) (fun _ _ _ _ _ _ us hl => match us, hl with | [_, _], _ => rfl),
    ad_begun := f9, fd_begun := _, F_begun := fun_mk l9 c9 k9, g_begun := PySem.W.mg_of X G a9, b_begun := (fun_mk l9 c9 k9).binds (ps := ["sets"]) (fun _ _ _ _ _ _ us hl => match us, hl with | [_], _ => rfl),
    ad_fits := f10, fd_fits := _, F_fits := fun_mk l10 c10 k10, g_fits := PySem.W.mg_of X G a10, b_fits := (fun_mk l10 c10 k10).binds (ps := ["sets", "places", "core", "more"]) (fun _ _ _ _ _ _ us hl => match us, hl with | [_, _, _, _], _ => rfl),
    ad_grown := f11, fd_grown := _, F_grown := fun_mk l11 c11 k11, g_grown := PySem.W.mg_of X G a11, b_grown := (fun_mk l11 c11 k11).binds (ps := ["sets", "flowers"]) (fun _ _ _ _ _ _ us hl => match us, hl with | [_, _], _ => rfl),
    ad_flowers_of := f12, fd_flowers_of := _, F_flowers_of := fun_mk l12 c12 k12, g_flowers_of := PySem.W.mg_of X G a12, b_flowers_of := (fun_mk l12 c12 k12).binds (ps := ["sets", "many"]) (fun _ _ _ _ _ _ us hl => match us, hl with | [_, _], _ => rfl),
    ad_next_level := f13, fd_next_level := _, F_next_level := fun_mk l13 c13 k13, g_next_level := PySem.W.mg_of X G a13, b_next_level := (fun_mk l13 c13 k13).binds (ps := ["sets", "many"]) (fun _ _ _ _ _ _ us hl => match us, hl with | [_, _], _ => rfl),
    ad_levels_of := f14, fd_levels_of := _, F_levels_of := fun_mk l14 c14 k14, g_levels_of := PySem.W.mg_of X G a14, b_levels_of := (fun_mk l14 c14 k14).binds (ps := ["sets", "many", "most"]) (fun _ _ _ _ _ _ us hl => match us, hl with | [_, _, _], _ => rfl),
    ad_law_same := f15, fd_law_same := _, F_law_same := fun_mk l15 c15 k15, g_law_same := PySem.W.mg_of X G a15, b_law_same := (fun_mk l15 c15 k15).binds (ps := ["found", "due"]) (fun _ _ _ _ _ _ us hl => match us, hl with | [_, _], _ => rfl),
    ad_law_right := f16, fd_law_right := _, F_law_right := fun_mk l16 c16 k16, g_law_right := PySem.W.mg_of X G a16, b_law_right := (fun_mk l16 c16 k16).binds (ps := ["found", "due"]) (fun _ _ _ _ _ _ us hl => match us, hl with | [_, _], _ => rfl),
    ad_law := fa, fd_law := _, F_law := fun_mk l17 c17 k17, g_law := PySem.W.mg_of X G a17, b_law := (fun_mk l17 c17 k17).binds (ps := ["script"]) (fun _ _ _ _ _ _ us hl => match us, hl with | [_], _ => rfl),
    n_abs := PySem.W.mg_none_of X G z_abs,
    n_bool := PySem.W.mg_none_of X G z_bool,
    n_enumerate := PySem.W.mg_none_of X G z_enumerate,
    n_int := PySem.W.mg_none_of X G z_int,
    n_isinstance := PySem.W.mg_none_of X G z_isinstance,
    n_len := PySem.W.mg_none_of X G z_len,
    n_list := PySem.W.mg_none_of X G z_list,
    n_range := PySem.W.mg_none_of X G z_range,
    n_set := PySem.W.mg_none_of X G z_set,
    n_sorted := PySem.W.mg_none_of X G z_sorted,
    n_str := PySem.W.mg_none_of X G z_str,
    n_tuple := PySem.W.mg_none_of X G z_tuple,
    n_zip := PySem.W.mg_none_of X G z_zip }
  exact ⟨PySem.W.fnOf "law" "law" (defArgs st_law) (defBody st_law) (defScope st_law) .none kV17 dc17 pm17 an17 cd17 ct17, fun s v => .of_eq rfl, fun base _ _ => ok_law hL T⟩
end Law
open PySem PySem.W PyProof.Rows
set_option maxHeartbeats 0 in
theorem PySem.Challenge.cw_corepetals_k70_levels_told_holds : PySem.Challenge.rw_corepetals_k70_levels_told.Holds := by
  w_on; o_law; k_head; (case hw => w_witness2)
  k_fill
  refine Z.walk_ofKB (l := PySem.Challenge.rw_corepetals_k70_levels_told) (n := 63) (k := 12) (x := "script") (CX := L2.CX0) (sp := fun K => Z.spLawB K) rfl (by decide) rfl ⟨rfl, by decide, by decide⟩ (fun w h Y => PySem.W.kIn_of Y) ?F (fun _ _ a ns hl hb ho hS => ⟨a, ns, rfl, ⟨hS, Z.noTp_of ho⟩, hl, hb, fun _ => rfl⟩) (fun _ _ _ _ h => h)
  case F =>
    intro w mg fa h KX G hmg
    refine' Law.all_mk ?hL KX G hmg ?a0 ?l0 ?c0 ?k0 ?a1 ?l1 ?c1 ?k1 ?a2 ?l2 ?c2 ?k2 ?a3 ?l3 ?c3 ?k3 ?a4 ?l4 ?c4 ?k4 ?a5 ?l5 ?c5 ?k5 ?a6 ?l6 ?c6 ?k6 ?a7 ?l7 ?c7 ?k7 ?a8 ?l8 ?c8 ?k8 ?a9 ?l9 ?c9 ?k9 ?a10 ?l10 ?c10 ?k10 ?a11 ?l11 ?c11 ?k11 ?a12 ?l12 ?c12 ?k12 ?a13 ?l13 ?c13 ?k13 ?a14 ?l14 ?c14 ?k14 ?a15 ?l15 ?c15 ?k15 ?a16 ?l16 ?c16 ?k16 ?a17 ?l17 ?c17 ?k17 ?z_abs ?z_bool ?z_enumerate ?z_int ?z_isinstance ?z_len ?z_list ?z_range ?z_set ?z_sorted ?z_str ?z_tuple ?z_zip
    (case hL => exact rfl); (case a0 => k_is); (case l0 => k_is); (case c0 => k_is); (case k0 => k_is); (case a1 => k_is); (case l1 => k_is); (case c1 => k_is); (case k1 => k_is); (case a2 => k_is); (case l2 => k_is); (case c2 => k_is); (case k2 => k_is); (case a3 => k_is); (case l3 => k_is); (case c3 => k_is); (case k3 => k_is); (case a4 => k_is); (case l4 => k_is); (case c4 => k_is); (case k4 => k_is); (case a5 => k_is); (case l5 => k_is); (case c5 => k_is); (case k5 => k_is); (case a6 => k_is); (case l6 => k_is); (case c6 => k_is); (case k6 => k_is); (case a7 => k_is); (case l7 => k_is); (case c7 => k_is); (case k7 => k_is); (case a8 => k_is); (case l8 => k_is); (case c8 => k_is); (case k8 => k_is); (case a9 => k_is); (case l9 => k_is); (case c9 => k_is); (case k9 => k_is); (case a10 => k_is); (case l10 => k_is); (case c10 => k_is); (case k10 => k_is); (case a11 => k_is); (case l11 => k_is); (case c11 => k_is); (case k11 => k_is); (case a12 => k_is); (case l12 => k_is); (case c12 => k_is); (case k12 => k_is); (case a13 => k_is); (case l13 => k_is); (case c13 => k_is); (case k13 => k_is); (case a14 => k_is); (case l14 => k_is); (case c14 => k_is); (case k14 => k_is); (case a15 => k_is); (case l15 => k_is); (case c15 => k_is); (case k15 => k_is); (case a16 => k_is); (case l16 => k_is); (case c16 => k_is); (case k16 => k_is); (case a17 => k_is); (case l17 => k_is); (case c17 => k_is); (case k17 => k_is); (case z_abs => k_is); (case z_bool => k_is); (case z_enumerate => k_is); (case z_int => k_is); (case z_isinstance => k_is); (case z_len => k_is); (case z_list => k_is); (case z_range => k_is); (case z_set => k_is); (case z_sorted => k_is); (case z_str => k_is); (case z_tuple => k_is); (case z_zip => k_is)
