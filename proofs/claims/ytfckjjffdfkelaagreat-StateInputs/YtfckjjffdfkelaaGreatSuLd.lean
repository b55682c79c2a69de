/-
  An evaluator of the program's functions over trees of values, proved sound. No condition.
-/
import Derived.Test.YtfckjjffdfkelaaGreatEC15
import Derived.Test.YtfckjjffdfkelaaGreatNB10
import Derived.Test.YtfckjjffdfkelaaGreatSuTb
section
namespace Su
open Go Fly Go.RowKit Go.ChangeShapes
section
variable {H : Type} {enc : TypeId × Value → H} {P : Program} {S : List Nat}
theorem trodAll_len {w : World} {base : Nat} {sp : Nat → Bool} {held : Bool} : ∀ {ts : List Nat} {vs : List Value} {ds : List (DataW H)} {p : List MemPlace}, DataW.TrodAll enc P w base sp held ts vs ds p → ds.length = ts.length
 | [], _, _, _, h => by obtain ⟨rfl, rfl, rfl⟩ := trodAll_nil h; rfl
 | _ :: _, _, _, _, h => by
  obtain ⟨v, vs1, d, ds1, a, b, rfl, rfl, rfl, h1, h2⟩ := trodAll_cons h
  simp [trodAll_len h2]
theorem kept_of {W W' : World} {may : MemPlace → Prop} (ho : W'.os = W.os) (hp : W'.output = W.output) (hb : ∀ b, b < W.heap.size → W'.heap[b]? = W.heap[b]?) : W.keptBut W' may := by
 refine ⟨ho, hp, fun i hi => ?_⟩
 rw [hb i hi]
 cases W.heap[i]? with
 | none => rfl
 | some o => cases o <;> first | exact ⟨rfl, rfl, rfl, fun _ _ => rfl⟩ | exact .inr ⟨rfl, rfl⟩ | rfl
theorem pure_post {fn : Func} {s : ChangeSpec} {apart fresh handsOn again : Bool} (hS : ∀ t ∈ S, okTy P S t = true) (hpar : ∀ t ∈ fn.params.toList, t ∈ S) {tb : Nat} (hres : fn.resultTypes = #[tb]) (htb : P.underlying tb = some .bool) (hvars : s.vars = [])
 (hsn : ∀ ds : List (DataW H), ds.length = fn.params.size → s.fn H ds = { results := [.lit (.bool true)], args := ds }) {W : World} {args : Array Value} {ds gs : List (DataW H)} {before : List MemPlace} {b0 : Nat} {r : Reach}
 (hval : ∀ (j : Nat) t v, fn.params[j]? = some t → args[j]? = some v → Value.okWide P W r b0 t v) (hW : DataW.Whole enc P fn.params.toList s.vars apart W args.toList ds gs before) {W' : World} (ho : W'.os = W.os) (hp : W'.output = W.output) (hb : ∀ b, b < W.heap.size → W'.heap[b]? = W.heap[b]?) :
 s.post enc P fn apart fresh handsOn again W args (.bool true) W' := by
 have hW0 := hW
 have hlt := hW.lt
 obtain ⟨p, q, hA, hV, rfl, hz, hn⟩ := hW
 have hlen : ds.length = fn.params.size := by rw [trodAll_len hA]; simp
 have hV0 : gs = [] ∧ q = [] := by
  rw [hvars] at hV
  cases gs with
  | nil => exact ⟨rfl, hV⟩
  | cons g l => exact absurd hV (by intro h; cases h)
 obtain ⟨rfl, rfl⟩ := hV0
 have same : ∀ x ∈ p, W.sameAt W' x := by
  intro x hx
  have h1 := hlt x (List.mem_append_left _ hx)
  cases x with
  | cell b off => simp only [World.sameAt, World.cell?]; rw [hb b h1]
  | map b => exact hb b h1
 have hargs := (args_trees hS _ _ _ _ hpar (fun j t v hj hv => hval j t v (by simpa using hj) (by simpa using hv)) hA).2
 have hcarry : ∀ sp : Nat → Bool, (∀ x ∈ p, sp x.block = true) → DataW.TrodAll enc P W' 0 sp true fn.params.toList args.toList ds p := fun sp hsp => trodAll_carry _ _ _ _ (hargs sp hsp) same
 have hfn := hsn ds hlen
 have hresult : ∀ (bs : Nat) (sp : Nat → Bool) (hd : Bool), DataW.TrodAll enc P W' bs sp hd fn.resultTypes.toList ((Value.bool true).resultList fn.resultTypes.size) [.lit (.bool true)] [] := by
  intro bs sp hd
  rw [hres]
  exact trodAll_mk1 (shut_bool htb true)
 have hold : ∀ x ∈ p, (fun b => decide (b < W.heap.size)) x.block = true := fun x hx => by simpa using hlt x (List.mem_append_left _ hx)
 have hvs : ∀ sp, DataW.TrodVars enc P W' sp s.vars (s.fn H (ds ++ [])).vars [] := fun sp => by rw [List.append_nil, hfn, hvars]; rfl
 refine ⟨ds, [], p ++ [], [], p, [], hW0, ?_, ?_, hvs _, kept_of ho hp hb, fun _ => ⟨?_, ?_⟩⟩
 · rw [List.append_nil, hfn]; exact hresult _ _ _
 · rw [List.append_nil, hfn]; exact hcarry _ hold
 · intro j t r0 h1 h2
   rw [hres] at h1 h2
   have : (Value.bool true).resultList #[tb].size = [.bool true] := rfl
   rw [this] at h2
   cases j with
   | zero =>
    simp at h1 h2
    subst h1 h2
    unfold Value.okWide
    rw [htb]
    simp [Cell.okWide, Cell.ok, htb]
   | succ j => simp at h1
 · refine ⟨_, [], ([] ++ p) ++ [], ⟨[] ++ p, [], trodAll_append (hcarry _ fun _ _ => rfl) (hresult _ _ _), ?_, rfl, ?_, ?_⟩, ?_⟩
   · have := hvs (fun _ => true)
     rw [List.append_nil, hfn] at this; exact this
   · intro b off hm
     have hm' : MemPlace.cell b off ∈ p := by simpa using hm
     have h1 : b < W.heap.size := hlt _ (List.mem_append_left _ hm')
     have h2 := hz b off (by simpa using hm')
     unfold World.frozen? at h2 ⊢
     rw [hb b h1]; exact h2
   · intro ha; simpa using hn ha
   · intro x hx _; simpa using hx
theorem law_post {fn : Func} {f : FuncId} {s : ChangeSpec} {apart fresh handsOn again : Bool} (hS : ∀ t ∈ S, okTy P S t = true) (hpar : ∀ t ∈ fn.params.toList, t ∈ S) {tb : Nat} (hres : fn.resultTypes = #[tb]) (htb : P.underlying tb = some .bool) (hvars : s.vars = [])
 (hsn : ∀ ds : List (DataW H), ds.length = fn.params.size → s.fn H ds = { results := [.lit (.bool true)], args := ds }) {W : World} {args : Array Value} {ds gs : List (DataW H)} {before : List MemPlace} {b0 : Nat} {r : Reach}
 (hval : ∀ (j : Nat) t v, fn.params[j]? = some t → args[j]? = some v → Value.okWide P W r b0 t v) (hW : DataW.Whole enc P fn.params.toList s.vars apart W args.toList ds gs before)
 (h : ∀ xs, RepA (hv W) xs args.toList → All2 (IsTy P) fn.params.toList xs → Fing P f args (hv W) [] fun v _ _ => v = .bool true) :
 Calls P f args W fun e W' => ∃ v, e = .returned v ∧ s.post enc P fn apart fresh handsOn again W args v W' := by
 obtain ⟨p, q, hA, hV, hpq, hz, hn⟩ := id hW
 obtain ⟨⟨xs, h1, h2⟩, _⟩ := args_trees hS _ _ _ _ hpar (fun j t v hj hv => hval j t v (by simpa using hj) (by simpa using hv)) hA
 refine (h xs h1 h2 W (fun _ _ h => h) (fun _ h => by cases h) (fun _ h => by cases h) List.nodup_nil).mono ?_
 rintro e W' ⟨v, V', G', rfl, hh, rfl⟩
 exact ⟨_, rfl, pure_post hS hpar hres htb hvars hsn hval hW hh.ext.os hh.ext.output fun b hb => hh.ext.block b hb (by simp [keys])⟩
end
end Su
end
section
namespace Su
open Go Fly
section
variable {P : Program}
def tysOf (P : Program) (t : Nat) : Option (List Nat) := match P.underlying t with
 | some (.struct fs) => some (fs.toList.map (·.type))
 | _ => none
theorem all2_map {α β γ : Type} {R : γ → β → Prop} {f : α → γ} : ∀ {l : List α} {m : List β}, All2 (fun a b => R (f a) b) l m → All2 R (l.map f) m
 | _, _, .nil => .nil
 | _, _, .cons h h' => .cons h (all2_map h')
theorem all2_imp {α β : Type} {R R' : α → β → Prop} (hi : ∀ a b, R a b → R' a b) : ∀ {l : List α} {m : List β}, All2 R l m → All2 R' l m
 | _, _, .nil => .nil
 | _, _, .cons h h' => .cons (hi _ _ h) (all2_imp hi h')
theorem all2_app {α β : Type} {R : α → β → Prop} : ∀ {l l' : List α} {m m' : List β}, All2 R l m → All2 R l' m' → All2 R (l ++ l') (m ++ m')
 | _, _, _, _, .nil, h' => h'
 | _, _, _, _, .cons h h1, h' => .cons h (all2_app h1 h')
def Sh1 (P : Program) (t : Nat) (xs : List T) : Prop := ∃ fuel, Shp P fuel t xs
theorem sh_struct {ts : List Nat} {t : Nat} {xs : List T} (hu : tysOf P t = some ts) (h : Sh1 P t xs) : ∃ parts, xs = List.flatten parts ∧ All2 (Sh1 P) ts parts := by
 obtain ⟨fuel, h⟩ := h
 cases fuel with
 | zero => exact absurd h (by simp [Shp])
 | succ fuel =>
  unfold tysOf at hu
  split at hu
  · rename_i fs hs
    simp only [Option.some.injEq] at hu; subst hu
    simp only [Shp, hs] at h
    obtain ⟨parts, h1, h2⟩ := h
    exact ⟨parts, h1, all2_map (f := fun f : Field => f.type) (all2_imp (fun _ _ h => ⟨_, h⟩) h2)⟩
  · simp at hu
def R1 {α : Type} (P : Program) (c : Cod α) (t : Nat) : Prop := ∀ xs, Sh1 P t xs → ∃ x a, xs = [x] ∧ c.dec x = some a
def RD {α : Type} (P : Program) (d : Dec α) (ts : List Nat) : Prop := ∀ parts, All2 (Sh1 P) ts parts → ∃ a, d.dec parts.flatten = some a
theorem r1_int {κ : IntKind} {t : Nat} (hu : P.underlying t = some (.int κ)) : R1 P (cI κ) t := by
 rintro xs ⟨fuel, h⟩
 cases fuel with
 | zero => exact absurd h (by simp [Shp])
 | succ fuel =>
  simp only [Shp, hu] at h
  obtain ⟨n, rfl, _⟩ := h
  exact ⟨_, n, rfl, by show asI κ (.t (.s (.int κ n))) = some n; simp [asI]⟩
theorem r1_bool {t : Nat} (hu : P.underlying t = some .bool) : R1 P cB t := by
 rintro xs ⟨fuel, h⟩
 cases fuel with
 | zero => exact absurd h (by simp [Shp])
 | succ fuel =>
  simp only [Shp, hu] at h
  obtain ⟨n, rfl⟩ := h
  exact ⟨_, n, rfl, rfl⟩
theorem r1_str {t : Nat} (hu : P.underlying t = some .string) : R1 P cS t := by
 rintro xs ⟨fuel, h⟩
 cases fuel with
 | zero => exact absurd h (by simp [Shp])
 | succ fuel =>
  simp only [Shp, hu] at h
  obtain ⟨n, rfl, _⟩ := h
  exact ⟨_, n, rfl, rfl⟩
theorem slice_sh {e t : Nat} {xs : List T} (hu : P.underlying t = some (.slice e)) (h : Sh1 P t xs) : ∃ l, xs = [.sl (P.cellsOf e) l] ∧ ∀ x ∈ l, x.isAgg = isGroup P e ∧ Sh1 P e x.cells := by
 obtain ⟨fuel, h⟩ := h
 cases fuel with
 | zero => exact absurd h (by simp [Shp])
 | succ fuel => simp only [Shp, hu] at h; obtain ⟨l, h, _, h2⟩ := h; exact ⟨l, h, fun x hx => ⟨(h2 x hx).1, _, (h2 x hx).2⟩⟩
theorem rd_agg {x : T} (h : x.isAgg = true) : x = .agg x.cells := by cases x <;> first | rfl | (simp [T.isAgg] at h)
theorem r1_sw {e t w : Nat} (hu : P.underlying t = some (.slice e)) (hw : Nat.beq (P.cellsOf e) w = true) : R1 P (cSw w) t := by
 intro xs h
 obtain ⟨l, rfl, _⟩ := slice_sh hu h
 exact ⟨_, l, rfl, by show (bif Nat.beq (P.cellsOf e) w then some l else none) = _; rw [hw]; rfl⟩
theorem r1_row {u k e t : Nat} (R : RowD u k) {ts : List Nat} (hu : P.underlying t = some (.slice e)) (hw : Nat.beq (P.cellsOf e) k = true) (hg : isGroup P e = true) (he : tysOf P e = some ts) (hd : RD P R.d ts) : R1 P (cL R) t := by
 intro xs h
 obtain ⟨l, rfl, hl⟩ := slice_sh hu h
 have : ∃ a, unR R l = some a := by
  clear h
  induction l with
  | nil => exact ⟨[], rfl⟩
  | cons x l ih =>
   obtain ⟨b, hb⟩ := ih fun y hy => hl y (List.mem_cons_of_mem _ hy)
   obtain ⟨h1, h2⟩ := hl x (List.mem_cons_self ..)
   rw [hg] at h1
   obtain ⟨parts, h3, h4⟩ := sh_struct he h2
   obtain ⟨a, ha⟩ := hd parts h4
   refine ⟨a :: b, ?_⟩
   have : unR1 R x = some a := by rw [rd_agg h1]; show R.d.dec x.cells = some a; rw [h3]; exact ha
   simp only [unR, this, hb, Option.bind_some]
 obtain ⟨a, ha⟩ := this
 exact ⟨_, a, rfl, by show (bif Nat.beq (P.cellsOf e) k then unR R l else none) = _; rw [hw]; exact ha⟩
theorem r1_tms {e t i f : Nat} (hu : P.underlying t = some (.slice e)) (hw : Nat.beq (P.cellsOf e) 2 = true) (hg : isGroup P e = true) (he : tysOf P e = some [i, f]) (hi : P.underlying i = some (.int .i64)) (hf : P.underlying f = some (.int .u64)) : R1 P cTms t := by
 intro xs h
 obtain ⟨l, rfl, hl⟩ := slice_sh hu h
 have : ∃ a, unTms l = some a := by
  clear h
  induction l with
  | nil => exact ⟨[], rfl⟩
  | cons x l ih =>
   obtain ⟨b, hb⟩ := ih fun y hy => hl y (List.mem_cons_of_mem _ hy)
   obtain ⟨h1, h2⟩ := hl x (List.mem_cons_self ..)
   rw [hg] at h1
   obtain ⟨parts, h3, h4⟩ := sh_struct he h2
   cases h4 with | cons p1 h4 => cases h4 with | cons p2 h4 => cases h4 with | nil =>
   obtain ⟨x1, i, rfl, e1⟩ := r1_int hi _ p1
   obtain ⟨x2, c, rfl, e2⟩ := r1_int hf _ p2
   refine ⟨(⟨i, c⟩ : Su.Tm) :: b, ?_⟩
   have e1 : asI .i64 (.t x1) = some i := e1
   have e2 : asI .u64 (.t x2) = some c := e2
   have : unTm x = some (⟨i, c⟩ : Su.Tm) := by
    rw [rd_agg h1, h3]
    show ((asI .i64 (.t x1)).bind fun i => (asI .u64 (.t x2)).bind fun c => some (⟨i, c⟩ : Su.Tm)) = _
    rw [e1, e2]; rfl
   show ((unTm x).bind fun a => (unTms l).bind fun b => some (a :: b)) = _
   rw [this, hb]; rfl
 obtain ⟨a, ha⟩ := this
 exact ⟨_, a, rfl, by show (bif Nat.beq (P.cellsOf e) 2 then unTms l else none) = _; rw [hw]; exact ha⟩
theorem rd_d1 {α : Type} {c : Cod α} {t : Nat} (h : R1 P c t) : RD P (d1 c) [t] := by
 intro parts hp
 cases hp with | cons p1 hp => cases hp with | nil =>
 obtain ⟨x, a, rfl, e⟩ := h _ p1
 exact ⟨a, e⟩
theorem rd_dc {α β : Type} {c : Cod α} {d : Dec β} {t : Nat} {ts : List Nat} (h : R1 P c t) (h' : RD P d ts) : RD P (dc c d) (t :: ts) := by
 intro parts hp
 cases hp with | cons p1 hp =>
 obtain ⟨x, a, rfl, e⟩ := h _ p1
 obtain ⟨b, e'⟩ := h' _ hp
 refine ⟨(a, b), ?_⟩
 show ((c.dec x).bind fun a => (d.dec ([] ++ _)).bind fun b => some (a, b)) = _
 rw [e, List.nil_append, e']; rfl
theorem rd_in {α : Type} {d : Dec α} {t : Nat} {ts' ts : List Nat} (hu : tysOf P t = some ts') (h : RD P d (ts' ++ ts)) : RD P d (t :: ts) := by
 intro parts hp
 cases hp with | cons p1 hp =>
 obtain ⟨parts', rfl, h2⟩ := sh_struct hu p1
 obtain ⟨a, e⟩ := h _ (all2_app h2 hp)
 exact ⟨a, by rw [List.flatten_append] at e; exact e⟩
theorem rd_dm {α β : Type} {d : Dec α} {to : α → β} {fr : β → α} {h1 h2} {ts : List Nat} (h : RD P d ts) : RD P (dm d to fr h1 h2) ts := by
 intro parts hp
 obtain ⟨a, e⟩ := h parts hp
 exact ⟨to a, by show ((d.dec _).bind fun a => some (to a)) = _; rw [e]; rfl⟩
theorem ty_agg {α : Type} {d : Dec α} {hf} {t : Nat} {x : T} (hg : isGroup P t = true) (h : RD P d [t]) (hx : IsTy P t x) : ∃ a, (cA d hf).dec x = some a := by
 obtain ⟨h0, fuel, h1⟩ := hx
 rw [hg] at h0
 obtain ⟨a, e⟩ := h [x.cells] (.cons ⟨fuel, h1⟩ .nil)
 rw [rd_agg h0]
 exact ⟨a, by show d.dec x.cells = some a; simpa using e⟩
theorem ty_one {α : Type} {c : Cod α} {t : Nat} {x : T} (hg : isGroup P t = false) (h : R1 P c t) (hx : IsTy P t x) : ∃ a, c.dec x = some a := by
 obtain ⟨h0, fuel, h1⟩ := hx
 rw [hg] at h0
 obtain ⟨y, a, e, e2⟩ := h x.cells ⟨fuel, h1⟩
 have e3 : x = y := by cases x <;> first | (cases h0; done) | (exact (List.cons.inj e).1)
 subst e3
 exact ⟨a, e2⟩
theorem dec_cons {α β : Type} {c : Cod α} {d : Dec β} {x : T} {l : List T} {a : α} {b : β} (h : c.dec x = some a) (h' : d.dec l = some b) : (dc c d).dec (x :: l) = some (a, b) := by
 show ((c.dec x).bind fun a => (d.dec l).bind fun b => some (a, b)) = _
 rw [h, h']; rfl
end
end Su
end
section
set_option maxRecDepth 10000
namespace Su
open Go Fly Go.Proofs
theorem t_i64 : R1 Tryz.prog (cI .i64) 2 := r1_int (by kernel_rfl)
theorem t_int : R1 Tryz.prog (cI .i64) 3 := r1_int (by kernel_rfl)
theorem t_i32 : R1 Tryz.prog (cI .i32) 21 := r1_int (by kernel_rfl)
theorem t_flt : R1 Tryz.prog (cI .u64) 45 := r1_int (by kernel_rfl)
theorem t_typ : R1 Tryz.prog (cI .u8) 46 := r1_int (by kernel_rfl)
theorem t_b : R1 Tryz.prog cB 4 := r1_bool (by kernel_rfl)
theorem t_s : R1 Tryz.prog cS 9 := r1_str (by kernel_rfl)
theorem t_tms : R1 Tryz.prog cTms 60 := r1_tms (e := 103) (i := 3) (f := 45) (by kernel_rfl) (by kernel_rfl) (by kernel_rfl) (by kernel_rfl) (by kernel_rfl) (by kernel_rfl)
theorem u_ints : tysOf Tryz.prog 29 = some [4, 2, 2] := by kernel_rfl
theorem u_bools : tysOf Tryz.prog 55 = some [4, 4] := by kernel_rfl
theorem u_clock : tysOf Tryz.prog 57 = some [29, 29] := by kernel_rfl
theorem u_span : tysOf Tryz.prog 59 = some [4, 45, 45] := by kernel_rfl
theorem u_form : tysOf Tryz.prog 62 = some [4, 45, 60, 45] := by kernel_rfl
theorem u_cell : tysOf Tryz.prog 64 = some [55, 29, 57, 59, 45, 62] := by kernel_rfl
theorem u_state : tysOf Tryz.prog 32 = some [4, 29, 30] := by kernel_rfl
theorem u_ccell : tysOf Tryz.prog 52 = some [9, 3, 3, 46, 4, 45, 45, 21, 21] := by kernel_rfl
theorem u_code : tysOf Tryz.prog 27 = some [3, 22, 23, 24, 25, 25, 3] := by kernel_rfl
theorem u_val : tysOf Tryz.prog 48 = some [46, 4, 21, 45] := by kernel_rfl
theorem d_ce : RD Tryz.prog dCe [55, 29, 57, 59, 45, 62] :=
 rd_dm (h1 := fun _ => rfl) (h2 := fun _ => rfl) (rd_in u_bools (rd_dc t_b (rd_dc t_b (rd_in u_ints (rd_dc t_b (rd_dc t_i64 (rd_dc t_i64 (rd_in u_clock (rd_in u_ints (rd_dc t_b (rd_dc t_i64 (rd_dc t_i64 (rd_in u_ints (rd_dc t_b (rd_dc t_i64 (rd_dc t_i64
  (rd_in u_span (rd_dc t_b (rd_dc t_flt (rd_dc t_flt (rd_dc t_flt (rd_in u_form (rd_dc t_b (rd_dc t_flt (rd_dc t_tms (rd_d1 t_flt))))))))))))))))))))))))))
theorem t_ces : R1 Tryz.prog (cL rCe) 30 := r1_row rCe (e := 64) (by kernel_rfl) (by kernel_rfl) (by kernel_rfl) u_cell d_ce
theorem d_cc : RD Tryz.prog rCc.d [9, 3, 3, 46, 4, 45, 45, 21, 21] :=
 rd_dm (h1 := fun _ => rfl) (h2 := fun _ => rfl) (rd_dc t_s (rd_dc t_int (rd_dc t_int (rd_dc t_typ (rd_dc t_b (rd_dc t_flt (rd_dc t_flt (rd_dc t_i32 (rd_d1 t_i32)))))))))
theorem t_ccs : R1 Tryz.prog (cL rCc) 22 := r1_row rCc (e := 52) (by kernel_rfl) (by kernel_rfl) (by kernel_rfl) u_ccell d_cc
theorem t_exs : R1 Tryz.prog (cSw 10) 23 := r1_sw (e := 279) (by kernel_rfl) (by kernel_rfl)
theorem t_ins : R1 Tryz.prog (cSw 11) 24 := r1_sw (e := 282) (by kernel_rfl) (by kernel_rfl)
theorem t_is : R1 Tryz.prog (cSw 1) 25 := r1_sw (e := 3) (by kernel_rfl) (by kernel_rfl)
theorem ty_code {x : T} (h : IsTy Tryz.prog 27 x) : ∃ a, cCo.dec x = some a :=
 ty_agg (by kernel_rfl) (rd_in u_code (rd_dc t_int (rd_dc t_ccs (rd_dc t_exs (rd_dc t_ins (rd_dc t_is (rd_dc t_is (rd_d1 t_int)))))))) h
theorem ty_state {x : T} (h : IsTy Tryz.prog 32 x) : ∃ a, cSt.dec x = some a :=
 ty_agg (by kernel_rfl) (rd_in u_state (rd_dc t_b (rd_in u_ints (rd_dc t_b (rd_dc t_i64 (rd_dc t_i64 (rd_d1 t_ces))))))) h
theorem d_vl : RD Tryz.prog rVl.d [46, 4, 21, 45] := rd_dm (h1 := fun _ => rfl) (h2 := fun _ => rfl) (rd_dc t_typ (rd_dc t_b (rd_dc t_i32 (rd_d1 t_flt))))
theorem t_vls : R1 Tryz.prog (cL rVl) 70 := r1_row rVl (e := 48) (by kernel_rfl) (by kernel_rfl) (by kernel_rfl) u_val d_vl
theorem ty_vls {x : T} (h : IsTy Tryz.prog 70 x) : ∃ a, (cL rVl).dec x = some a := ty_one (by kernel_rfl) t_vls h
theorem ty_i64 {x : T} (h : IsTy Tryz.prog 2 x) : ∃ a, (cI .i64).dec x = some a := ty_one (by kernel_rfl) t_i64 h
theorem gok {V : View} : GOK tb V := fun _ _ h => by cases h
theorem fing_of {α : Type} {f : Nat} {d : Dec α} {g : α → Option Bool} (hp : Ok1 Tryz.prog tb btsOK.sound f (prim d (d1 cB) g)) (hg : ∀ a, g a = some true) {V : View} {args : Array Value} {xs : List T} (hr : RepA V xs args.toList) {a : α} (ha : d.dec xs = some a) :
 Fing Tryz.prog f args V [] fun v _ _ => v = .bool true := by
 have h : (∀ xs y, (d.dec xs).bind g = some y → ∀ V vs, GOK tb V → RepA V xs vs → Fing Tryz.prog f vs.toArray V [] fun v V' _ => ∃ rvs, RepA V' ((d1 cB).enc y) rvs ∧ v = resV rvs) ∧ _ := hp.2
 have hF := h.1 xs true (by rw [ha]; exact hg a) V args.toList gok hr
 rw [Array.toArray_toList] at hF
 intro w a1 a2 a3 a4
 refine (hF w a1 a2 a3 a4).mono ?_
 rintro e w' ⟨v, V', G', rfl, hh, rvs, m1, rfl⟩
 refine ⟨_, V', G', rfl, hh, ?_⟩
 cases m1 with | cons k1 k2 => cases k2 with | nil => cases k1 with | s _ => rfl
end Su
end
