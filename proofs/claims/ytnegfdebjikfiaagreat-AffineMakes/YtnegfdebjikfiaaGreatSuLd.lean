/-
  An evaluator of the program's functions over trees of values, proved sound. No condition.
-/
import Derived.Test.YtnegfdebjikfiaaGreatED02
import Derived.Test.YtnegfdebjikfiaaGreatEC01
import Derived.Test.YtnegfdebjikfiaaGreatRows
import Derived.WalkKit
import Derived.ProofKit
section
namespace Su
open Go Fly Go.RowKit Go.ChangeShapes
section
variable {H : Type} {enc : TypeId × Value → H} {P : Program} {S : List Nat}
theorem trodAll_len {w : World} {base : Nat} {sp : Nat → Bool} {held : Bool} : ∀ {ts : List Nat} {vs : List Value} {ds : List (DataW H)} {p : List MemPlace}, DataW.TrodAll enc P w base sp held ts vs ds p → ds.length = ts.length
  | [], _, _, _, h => by obtain ⟨rfl, rfl, rfl⟩ := trodAll_nil h; rfl
  | _ :: _, _, _, _, h => by
    obtain ⟨v, vs1, d, ds1, a, b, rfl, rfl, rfl, h1, h2⟩ := trodAll_cons h
    simp [trodAll_len h2]
theorem kept_of {W W' : World} {may : MemPlace → Prop} (ho : W'.os = W.os) (hp : W'.output = W.output) (hb : ∀ b, b < W.heap.size → W'.heap[b]? = W.heap[b]?) : W.keptBut W' may := by
  refine ⟨ho, hp, fun i hi => ?_⟩
  rw [hb i hi]
  cases W.heap[i]? with
  | none => rfl
  | some o => cases o <;> first | exact ⟨rfl, rfl, rfl, fun _ _ => rfl⟩ | exact .inr ⟨rfl, rfl⟩ | rfl
theorem pure_post {fn : Func} {s : ChangeSpec} {apart fresh handsOn again : Bool} (hS : ∀ t ∈ S, okTy P S t = true) (hpar : ∀ t ∈ fn.params.toList, t ∈ S) {tb : Nat} (hres : fn.resultTypes = #[tb]) (htb : P.underlying tb = some .bool) (hvars : s.vars = [])
    (hsn : ∀ ds : List (DataW H), ds.length = fn.params.size → s.fn H ds = { results := [.lit (.bool true)], args := ds }) {W : World} {args : Array Value} {ds gs : List (DataW H)} {before : List MemPlace} {b0 : Nat} {r : Reach}
    (hval : ∀ (j : Nat) t v, fn.params[j]? = some t → args[j]? = some v → Value.okWide P W r b0 t v) (hW : DataW.Whole enc P fn.params.toList s.vars apart W args.toList ds gs before) {W' : World} (ho : W'.os = W.os) (hp : W'.output = W.output) (hb : ∀ b, b < W.heap.size → W'.heap[b]? = W.heap[b]?) :
    s.post enc P fn apart fresh handsOn again W args (.bool true) W' := by
  have hW0 := hW
  have hlt := hW.lt
  obtain ⟨p, q, hA, hV, rfl, hz, hn⟩ := hW
  have hlen : ds.length = fn.params.size := by rw [trodAll_len hA]; simp
  have hV0 : gs = [] ∧ q = [] := by
    rw [hvars] at hV
    cases gs with
    | nil => exact ⟨rfl, hV⟩
    | cons g l => exact absurd hV (by intro h; cases h)
  obtain ⟨rfl, rfl⟩ := hV0
  have same : ∀ x ∈ p, W.sameAt W' x := by
    intro x hx
    have h1 := hlt x (List.mem_append_left _ hx)
    cases x with
    | cell b off => simp only [World.sameAt, World.cell?]; rw [hb b h1]
    | map b => exact hb b h1
  have hargs := (args_trees hS _ _ _ _ hpar (fun j t v hj hv => hval j t v (by simpa using hj) (by simpa using hv)) hA).2
  have hcarry : ∀ sp : Nat → Bool, (∀ x ∈ p, sp x.block = true) → DataW.TrodAll enc P W' 0 sp true fn.params.toList args.toList ds p := fun sp hsp => trodAll_carry _ _ _ _ (hargs sp hsp) same
  have hfn := hsn ds hlen
  have hresult : ∀ (bs : Nat) (sp : Nat → Bool) (hd : Bool), DataW.TrodAll enc P W' bs sp hd fn.resultTypes.toList ((Value.bool true).resultList fn.resultTypes.size) [.lit (.bool true)] [] := by
    intro bs sp hd
    rw [hres]
    exact trodAll_mk1 (shut_bool htb true)
  have hold : ∀ x ∈ p, (fun b => decide (b < W.heap.size)) x.block = true := fun x hx => by simpa using hlt x (List.mem_append_left _ hx)
  have hvs : ∀ sp, DataW.TrodVars enc P W' sp s.vars (s.fn H (ds ++ [])).vars [] := fun sp => by rw [List.append_nil, hfn, hvars]; rfl
  refine ⟨ds, [], p ++ [], [], p, [], hW0, ?_, ?_, hvs _, kept_of ho hp hb, fun _ => ⟨?_, ?_⟩⟩
  · rw [List.append_nil, hfn]; exact hresult _ _ _
  · rw [List.append_nil, hfn]; exact hcarry _ hold
  · intro j t r0 h1 h2
    rw [hres] at h1 h2
    have : (Value.bool true).resultList #[tb].size = [.bool true] := rfl
    rw [this] at h2
    cases j with
    | zero =>
      simp at h1 h2
      subst h1 h2
      unfold Value.okWide
      rw [htb]
      simp [Cell.okWide, Cell.ok, htb]
    | succ j => simp at h1
  · refine ⟨_, [], ([] ++ p) ++ [], ⟨[] ++ p, [], trodAll_append (hcarry _ fun _ _ => rfl) (hresult _ _ _), ?_, rfl, ?_, ?_⟩, ?_⟩
    · have := hvs (fun _ => true)
      rw [List.append_nil, hfn] at this; exact this
    · intro b off hm
      have hm' : MemPlace.cell b off ∈ p := by simpa using hm
      have h1 : b < W.heap.size := hlt _ (List.mem_append_left _ hm')
      have h2 := hz b off (by simpa using hm')
      unfold World.frozen? at h2 ⊢
      rw [hb b h1]; exact h2
    · intro ha; simpa using hn ha
    · intro x hx _; simpa using hx
theorem law_post {fn : Func} {f : FuncId} {s : ChangeSpec} {apart fresh handsOn again : Bool} (hS : ∀ t ∈ S, okTy P S t = true) (hpar : ∀ t ∈ fn.params.toList, t ∈ S) {tb : Nat} (hres : fn.resultTypes = #[tb]) (htb : P.underlying tb = some .bool) (hvars : s.vars = [])
    (hsn : ∀ ds : List (DataW H), ds.length = fn.params.size → s.fn H ds = { results := [.lit (.bool true)], args := ds }) {W : World} {args : Array Value} {ds gs : List (DataW H)} {before : List MemPlace} {b0 : Nat} {r : Reach}
    (hval : ∀ (j : Nat) t v, fn.params[j]? = some t → args[j]? = some v → Value.okWide P W r b0 t v) (hW : DataW.Whole enc P fn.params.toList s.vars apart W args.toList ds gs before)
    (h : ∀ xs, RepA (hv W) xs args.toList → All2 (IsTy P) fn.params.toList xs → Fing P f args (hv W) [] fun v _ _ => v = .bool true) :
    Calls P f args W fun e W' => ∃ v, e = .returned v ∧ s.post enc P fn apart fresh handsOn again W args v W' := by
  obtain ⟨p, q, hA, hV, hpq, hz, hn⟩ := id hW
  obtain ⟨⟨xs, h1, h2⟩, _⟩ := args_trees hS _ _ _ _ hpar (fun j t v hj hv => hval j t v (by simpa using hj) (by simpa using hv)) hA
  refine (h xs h1 h2 W (fun _ _ h => h) (fun _ h => by cases h) (fun _ h => by cases h) List.nodup_nil).mono ?_
  rintro e W' ⟨v, V', G', rfl, hh, rfl⟩
  exact ⟨_, rfl, pure_post hS hpar hres htb hvars hsn hval hW hh.ext.os hh.ext.output fun b hb => hh.ext.block b hb (by simp [keys])⟩
end
end Su
end
section
set_option maxRecDepth 10000
namespace Su
open Go Fly Go.Proofs
section
variable {P : Program} {fuel t : Nat} {xs : List T}
def tysOf (P : Program) (t : Nat) : Option (List Nat) := match P.underlying t with
  | some (.struct fs) => some (fs.toList.map (·.type))
  | _ => none
theorem all2_map {α β γ : Type} {R : γ → β → Prop} {f : α → γ} : ∀ {l : List α} {m : List β}, All2 (fun a b => R (f a) b) l m → All2 R (l.map f) m
  | _, _, .nil => .nil
  | _, _, .cons h h' => .cons h (all2_map h')
theorem struct_inv {ts : List Nat} (hu : tysOf P t = some ts) (h : Shp P fuel t xs) : ∃ f' parts, fuel = f' + 1 ∧ xs = List.flatten parts ∧ All2 (Shp P f') ts parts := by
  cases fuel with
  | zero => exact absurd h (by simp [Shp])
  | succ fuel =>
    unfold tysOf at hu
    split at hu
    · rename_i fs hs
      simp only [Option.some.injEq] at hu; subst hu
      simp only [Shp, hs] at h
      obtain ⟨parts, h1, h2⟩ := h
      exact ⟨fuel, parts, rfl, h1, all2_map (f := fun f : Field => f.type) h2⟩
    · simp at hu
theorem int_inv {k : IntKind} (hu : P.underlying t = some (.int k)) (h : Shp P fuel t xs) : ∃ n, xs = [.s (.int k n)] := by
  cases fuel with
  | zero => exact absurd h (by simp [Shp])
  | succ fuel => simp only [Shp, hu] at h; obtain ⟨n, h, _⟩ := h; exact ⟨n, h⟩
theorem bool_inv (hu : P.underlying t = some .bool) (h : Shp P fuel t xs) : ∃ n, xs = [.s (.bool n)] := by
  cases fuel with
  | zero => exact absurd h (by simp [Shp])
  | succ fuel => simp only [Shp, hu] at h; exact h
theorem slice_inv {e : Nat} (hu : P.underlying t = some (.slice e)) (h : Shp P fuel t xs) : ∃ f' l, fuel = f' + 1 ∧ xs = [.sl (P.cellsOf e) l] ∧ ∀ x ∈ l, x.isAgg = isGroup P e ∧ Shp P f' e x.cells := by
  cases fuel with
  | zero => exact absurd h (by simp [Shp])
  | succ fuel => simp only [Shp, hu] at h; obtain ⟨l, h, _, h2⟩ := h; exact ⟨fuel, l, rfl, h, h2⟩
end
theorem agg_of {x : T} (h : x.isAgg = true) : x = .agg x.cells := by cases x <;> first | rfl | (simp [T.isAgg] at h)
theorem tm_of {fuel : Nat} {x : T} (h0 : x.isAgg = isGroup Tryz.prog 58) (h : Shp Tryz.prog fuel 58 x.cells) : ∃ a, unTm x = some a := by
  have hg : isGroup Tryz.prog 58 = true := by kernel_rfl
  rw [hg] at h0
  have hx := agg_of h0
  obtain ⟨f', parts, rfl, h1, h2⟩ := struct_inv (ts := [3, 23]) (by kernel_rfl) h
  cases h2 with | cons p1 h2 => cases h2 with | cons p2 h2 => cases h2 with | nil =>
  obtain ⟨i, rfl⟩ := int_inv (k := .i64) (by kernel_rfl) p1
  obtain ⟨c, rfl⟩ := int_inv (k := .u64) (by kernel_rfl) p2
  rw [hx, h1]
  refine ⟨⟨i, c⟩, ?_⟩
  show ((asI .i64 (.t (.s (.int .i64 i)))).bind fun i => (asI .u64 (.t (.s (.int .u64 c)))).bind fun c => some (⟨i, c⟩ : Su.Tm)) = _
  simp [asI]
  rfl
theorem tms_of : ∀ {l : List T} {fuel : Nat}, (∀ x ∈ l, x.isAgg = isGroup Tryz.prog 58 ∧ Shp Tryz.prog fuel 58 x.cells) → ∃ a, unTms l = some a
  | [], _, _ => ⟨[], rfl⟩
  | x :: l, fuel, h => by
    obtain ⟨a, ha⟩ := tm_of (h x (List.mem_cons_self ..)).1 (h x (List.mem_cons_self ..)).2
    obtain ⟨b, hb⟩ := tms_of (l := l) fun y hy => h y (List.mem_cons_of_mem _ hy)
    exact ⟨a :: b, by simp [unTms, ha, hb]⟩
theorem form_of {x : T} (h : IsTy Tryz.prog 28 x) : ∃ a, cFrm.dec x = some a := by
  obtain ⟨h0, fuel, h⟩ := h
  have hg : isGroup Tryz.prog 28 = true := by kernel_rfl
  rw [hg] at h0
  have hx := agg_of h0
  obtain ⟨f', parts, rfl, h1, h2⟩ := struct_inv (ts := [4, 23, 26, 23]) (by kernel_rfl) h
  cases h2 with | cons p1 h2 => cases h2 with | cons p2 h2 => cases h2 with | cons p3 h2 => cases h2 with | cons p4 h2 => cases h2 with | nil =>
  obtain ⟨b, rfl⟩ := bool_inv (by kernel_rfl) p1
  obtain ⟨m, rfl⟩ := int_inv (k := .u64) (by kernel_rfl) p2
  obtain ⟨f2, l, rfl, rfl, h3⟩ := slice_inv (e := 58) (by kernel_rfl) p3
  obtain ⟨e, rfl⟩ := int_inv (k := .u64) (by kernel_rfl) p4
  obtain ⟨ts, hts⟩ := tms_of h3
  have hc : Tryz.prog.cellsOf 58 = 2 := by kernel_rfl
  rw [hx, h1, hc]
  refine ⟨(b, (m, (ts, e))), ?_⟩
  show ((asB (.t (.s (.bool b)))).bind fun b => (((asI .u64 (.t (.s (.int .u64 m)))).bind fun m => ((cTms.dec (.sl 2 l)).bind fun t => (asI .u64 (.t (.s (.int .u64 e)))).bind fun e => some (t, e)).bind fun q => some (m, q))).bind fun q => some (b, q)) = _
  have h4 : cTms.dec (.sl 2 l) = some ts := hts
  simp [asI, asB, h4]
theorem gok {V : View} : GOK tb V := fun _ _ h => by cases h
end Su
namespace Go.Proofs.YtnegfdebjikfiaaGreat
open Go Go.ChangeShapes Go.WideShapes Go.ChangeAt Go.RowKit Fly Su
set_option maxRecDepth 100000
theorem ownK : ownKnob Tryz.prog.godebug = none := by kernel_rfl
theorem uBool : Tryz.prog.underlying 4 = some .bool := by kernel_rfl
end Go.Proofs.YtnegfdebjikfiaaGreat
end
