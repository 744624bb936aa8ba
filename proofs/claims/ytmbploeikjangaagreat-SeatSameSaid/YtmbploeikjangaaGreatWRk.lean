/- Calls that only read, for the walk's simplifier. -/
import Derived.Test.YtmbploeikjangaaGreatWRb
import Derived.Test.YtmbploeikjangaaGreatWk
set_option linter.unusedSimpArgs false
set_option linter.unusedVariables false
namespace Go.W

theorem rdS_fn (d : List AV → List NObj → Option AV) (hok : ROk d) (args : List AV) (G : NH) (nb : Nat) : (rdS d hok).fn args G nb = rdF d args G nb := rfl

theorem nif_one : Value.oneCell' .nilIface = true := rfl
theorem nfn_one : Value.oneCell' .nilFunc = true := rfl
theorem datLL_nil : datLL [] = true := rfl
theorem datLL_cons (c : List AV) (r : List (List AV)) : datLL (c :: r) = (datL c && datLL r) := rfl
theorem datLL_app (a b : List (List AV)) : datLL (a ++ b) = (datLL a && datLL b) := by simp [datLL]
theorem datL_nil : datL [] = true := rfl
theorem datL_cons (c : AV) (r : List AV) : datL (c :: r) = (c.dat && datL r) := rfl
theorem datLL_take {l : List (List AV)} (h : datLL l = true) (n : Nat) : datLL (l.take n) = true :=
  List.all_eq_true.2 fun c hc => List.all_eq_true.1 h c (List.mem_of_mem_take hc)
theorem datLL_drop {l : List (List AV)} (h : datLL l = true) (n : Nat) : datLL (l.drop n) = true :=
  List.all_eq_true.2 fun c hc => List.all_eq_true.1 h c (List.mem_of_mem_drop hc)
theorem datLL_all {l : List (List AV)} : datLL l = l.all datL := rfl

section
variable (G : NH) (d k : Nat)
theorem lnV_int (a : IntKind) (n : Int) : lnV G d k (.int a n) = some (.int a n, [], []) := by cases d <;> rfl
theorem lnV_bool (b : Bool) : lnV G d k (.bool b) = some (.bool b, [], []) := by cases d <;> rfl
theorem lnV_str (b : ByteArray) : lnV G d k (.str b) = some (.str b, [], []) := by cases d <;> rfl
theorem lnV_nsl : lnV G d k .nsl = some (.nsl, [], []) := by cases d <;> rfl
theorem lnV_bot : lnV G d k .bot = some (.bot, [], []) := by cases d <;> rfl
theorem lnV_iface (t : TypeId) (a : AV) : lnV G d k (.iface t a) = if a.dat = true then some (.iface t a, [], []) else none := by cases d <;> rfl
theorem lnV_raw (v : Value) : lnV G d k (.raw v) = if v.oneCell' = true then some (.raw v, [], []) else none := by cases d <;> rfl
theorem lnV_sl (p : Nm) (i n : Nat) : lnV G (d + 1) k (.sl p i n) = (match winN (getP G p) i n with
      | some (t, sz, w) => if datLL w = true then some (.sl (.top k) 0 n, [some (p, i)], [.view 0 sz w]) else
        (match travE (lnV G d) p t i (k + 1) w with
        | some (w', ml, os) => some (.sl (.top k) 0 n, some (p, i) :: ml, .view 0 sz w' :: os)
        | none => none)
      | none => none) := rfl
theorem lnV_ptr (p : Nm) (i f : Nat) : lnV G (d + 1) k (.ptr p i f) = (match winP (getP G p) i with
      | some (t, sz, c) => (match travE (lnV G d) p t i (k + 1) [c] with
        | some (w', ml, os) => some (.ptr (.top k) 0 f, some (p, i) :: ml, .view 0 sz w' :: os)
        | none => none)
      | none => none) := rfl
theorem lnV_fn (g : FuncId) (cap : List AV) : lnV G (d + 1) k (.fn g cap) = (match travL (lnV G d) k cap with
      | some (cap', ml, os) => some (.fn g cap', ml, os)
      | none => none) := rfl
theorem lnV_agg (l : List AV) : lnV G (d + 1) k (.agg l) = (match travL (lnV G d) k l with
      | some (l', ml, os) => some (.agg l', ml, os)
      | none => none) := rfl
theorem lnV_sl6 (p : Nm) (i n : Nat) : lnV G 6 k (.sl p i n) = (match winN (getP G p) i n with
      | some (t, sz, w) => if datLL w = true then some (.sl (.top k) 0 n, [some (p, i)], [.view 0 sz w]) else
        (match travE (lnV G 5) p t i (k + 1) w with
        | some (w', ml, os) => some (.sl (.top k) 0 n, some (p, i) :: ml, .view 0 sz w' :: os)
        | none => none)
      | none => none) := rfl
theorem lnV_sl5 (p : Nm) (i n : Nat) : lnV G 5 k (.sl p i n) = (match winN (getP G p) i n with
      | some (t, sz, w) => if datLL w = true then some (.sl (.top k) 0 n, [some (p, i)], [.view 0 sz w]) else
        (match travE (lnV G 4) p t i (k + 1) w with
        | some (w', ml, os) => some (.sl (.top k) 0 n, some (p, i) :: ml, .view 0 sz w' :: os)
        | none => none)
      | none => none) := rfl
theorem lnV_sl4 (p : Nm) (i n : Nat) : lnV G 4 k (.sl p i n) = (match winN (getP G p) i n with
      | some (t, sz, w) => if datLL w = true then some (.sl (.top k) 0 n, [some (p, i)], [.view 0 sz w]) else
        (match travE (lnV G 3) p t i (k + 1) w with
        | some (w', ml, os) => some (.sl (.top k) 0 n, some (p, i) :: ml, .view 0 sz w' :: os)
        | none => none)
      | none => none) := rfl
theorem lnV_sl3 (p : Nm) (i n : Nat) : lnV G 3 k (.sl p i n) = (match winN (getP G p) i n with
      | some (t, sz, w) => if datLL w = true then some (.sl (.top k) 0 n, [some (p, i)], [.view 0 sz w]) else
        (match travE (lnV G 2) p t i (k + 1) w with
        | some (w', ml, os) => some (.sl (.top k) 0 n, some (p, i) :: ml, .view 0 sz w' :: os)
        | none => none)
      | none => none) := rfl
theorem lnV_ptr6 (p : Nm) (i f : Nat) : lnV G 6 k (.ptr p i f) = (match winP (getP G p) i with
      | some (t, sz, c) => (match travE (lnV G 5) p t i (k + 1) [c] with
        | some (w', ml, os) => some (.ptr (.top k) 0 f, some (p, i) :: ml, .view 0 sz w' :: os)
        | none => none)
      | none => none) := rfl
theorem lnV_ptr5 (p : Nm) (i f : Nat) : lnV G 5 k (.ptr p i f) = (match winP (getP G p) i with
      | some (t, sz, c) => (match travE (lnV G 4) p t i (k + 1) [c] with
        | some (w', ml, os) => some (.ptr (.top k) 0 f, some (p, i) :: ml, .view 0 sz w' :: os)
        | none => none)
      | none => none) := rfl
theorem lnV_ptr4 (p : Nm) (i f : Nat) : lnV G 4 k (.ptr p i f) = (match winP (getP G p) i with
      | some (t, sz, c) => (match travE (lnV G 3) p t i (k + 1) [c] with
        | some (w', ml, os) => some (.ptr (.top k) 0 f, some (p, i) :: ml, .view 0 sz w' :: os)
        | none => none)
      | none => none) := rfl
theorem lnV_ptr3 (p : Nm) (i f : Nat) : lnV G 3 k (.ptr p i f) = (match winP (getP G p) i with
      | some (t, sz, c) => (match travE (lnV G 2) p t i (k + 1) [c] with
        | some (w', ml, os) => some (.ptr (.top k) 0 f, some (p, i) :: ml, .view 0 sz w' :: os)
        | none => none)
      | none => none) := rfl
theorem lnV_fn6 (g : FuncId) (cap : List AV) : lnV G 6 k (.fn g cap) = (match travL (lnV G 5) k cap with
      | some (cap', ml, os) => some (.fn g cap', ml, os)
      | none => none) := rfl
theorem lnV_agg6 (l : List AV) : lnV G 6 k (.agg l) = (match travL (lnV G 5) k l with
      | some (l', ml, os) => some (.agg l', ml, os)
      | none => none) := rfl
theorem lnV_fn5 (g : FuncId) (cap : List AV) : lnV G 5 k (.fn g cap) = (match travL (lnV G 4) k cap with
      | some (cap', ml, os) => some (.fn g cap', ml, os)
      | none => none) := rfl
theorem lnV_fn4 (g : FuncId) (cap : List AV) : lnV G 4 k (.fn g cap) = (match travL (lnV G 3) k cap with
      | some (cap', ml, os) => some (.fn g cap', ml, os)
      | none => none) := rfl
end

attribute [simp] nif_one nfn_one rdS_fn rdF travL travE winN winP bkR bk1 mlRoots rOk rsOk rs1 AV.dat datLs datO datLL_nil datLL_cons datLL_app datL_nil datL_cons datLL_take datLL_drop
attribute [simp] lnV_int lnV_bool lnV_str lnV_nsl lnV_bot lnV_iface lnV_raw lnV_sl6 lnV_sl5 lnV_sl4 lnV_sl3 lnV_ptr6 lnV_ptr5 lnV_ptr4 lnV_ptr3 lnV_agg6 lnV_fn6 lnV_fn5 lnV_fn4

end Go.W
