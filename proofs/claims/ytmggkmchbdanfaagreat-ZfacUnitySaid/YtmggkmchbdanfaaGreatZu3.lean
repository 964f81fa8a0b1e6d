/- What a proof needs: rules of walking, mirrors of functions and their plain laws. No condition. -/
import Derived.Test.YtmggkmchbdanfaaGreatZu2
section
set_option linter.unusedVariables false
set_option linter.unusedSimpArgs false
namespace Go.Proofs.YtmggkmchbdanfaaGreat
def PH (S : Nat -> Prop) (w : World) : (ts : List Ty) -> TsD ts -> List (Nat × Value) -> Prop
 | [], _, [] => True
 | t :: ts, y, (_, v) :: r => (fV t.rep y.1 v).p S w /\ PH S w ts y.2 r
 | _, _, _ => False
theorem PH.keep {S : Nat -> Prop} {w w' : World} (k : Keeps S w w') : ∀ {ts : List Ty} {ys : TsD ts} {ps : List (Nat × Value)}, PH S w ts ys ps -> PH S w' ts ys ps
 | [], _, [], h => trivial
 | t :: _, y, (_, v) :: _, h => ⟨(fV t.rep y.1 v).keep h.1 k, PH.keep k h.2⟩
 | [], _, _ :: _, h => h.elim
 | _ :: _, _, [], h => h.elim
theorem PH.sub {S S' : Nat -> Prop} {w : World} (k : ∀ k, k < w.heap.size -> S k -> S' k) : ∀ {ts : List Ty} {ys : TsD ts} {ps : List (Nat × Value)}, PH S w ts ys ps -> PH S' w ts ys ps
 | [], _, [], h => trivial
 | t :: _, y, (_, v) :: _, h => ⟨(fV t.rep y.1 v).sub h.1 k, PH.sub k h.2⟩
 | [], _, _ :: _, h => h.elim
 | _ :: _, _, [], h => h.elim
def phF (ts : List Ty) (ys : TsD ts) (ps : List (Nat × Value)) : FF := ⟨fun S w => PH S w ts ys ps, fun h k => PH.keep k h, fun h k => PH.sub k h⟩
section
variable {P : Program} {cf : Cf} {cx σ : Sg} {F : List MF} {vs : Nat -> Value} {env : Env} {S : Nat -> Prop} {w : World} {R : Type} {r : R}
 {d : Option Tmp} {ty t yt : TypeId} {pos : String} {aft : Array Edge} {g : Option (Nat × Bool)} {x y : Operand}
theorem parts_s : ∀ {ts : List Ty} {ps : List (Nat × Operand)} {j : Nat} {k : TsD ts -> Option R}, parts cx σ ts ps j k = some r ->
  ∃ ys, k ys = some r /\ ps.map (·.1) = List.range' j ps.length /\ ∀ (P : Program) vs env S w, (∀ x ∈ ps.map (·.2), LkO P vs env S w cx σ x) -> PH S w ts ys (ps.map fun q : Nat × Operand => (q.1, ev env q.2))
 | [], [], j, k, h => ⟨(), h, rfl, fun _ _ _ _ _ _ => trivial⟩
 | t :: ts, (i, x) :: ps, j, k, h => by
  unfold parts at h
  obtain ⟨hij, h⟩ := grd_s h
  obtain ⟨y, h, hy⟩ := asO_s h
  obtain ⟨ys, h1, h2, h3⟩ := parts_s h
  refine ⟨(y, ys), h1, ?_, fun P vs env S w hl => ⟨hy P vs env S w (hl x (List.mem_cons_self ..)), h3 P vs env S w fun z hz => hl z (List.mem_cons_of_mem _ hz)⟩⟩
  simp only [List.map_cons, List.length_cons, List.range'_succ, h2, beq_t hij]
 | [], _ :: _, j, k, h => by simp [parts] at h
 | _ :: _, [], j, k, h => by simp [parts] at h
theorem flat1 {i : Nat} {v : Value} : flat [(i, v)] = v.cells.toList := by simp [flat]
theorem fld0 {k : Nat} {s t : Ty} : fld (k + 2) (.p s t) 0 = some ⟨0, s, fun z => z.1, fun y z => (y, z.2)⟩ := rfl
theorem fldS {k : Nat} {s t : Ty} {i : Nat} {f : Fl t.D} (h : fld (k + 1) t i = some f) : fld (k + 2) (.p s t) (i + 1) = some ⟨s.n + f.off, f.f, fun z => f.get z.2, fun y z => (z.1, f.set y z.2)⟩ := by
 simp only [fld, h]
theorem join_s {pl : Array (Nat × Nat)} : ∀ {k : Nat} {t : Ty} {o j : Nat} {ys : TsD (flds k t)} {ps : List (Nat × Value)} {z : t.D}, (∀ i f, fld k t i = some f -> pl[j + i]? = some (o + f.off, f.f.n)) ->
  ps.map (·.1) = List.range' j ps.length -> PH S w (flds k t) ys ps -> joinP k t ys = some z -> fillOK (pl[·]?) ps o /\ t.rep.p S z (flat ps) w
 | 0, _, _, _, _, _, _, _, _, _, h => by simp [joinP] at h
 | 1, t, o, j, ys, [], z, hp, hi, h, hj => h.elim
 | 1, t, o, j, ys, [(i, v)], z, hp, hi, h, hj => by
  simp only [joinP, Option.some.injEq] at hj
  subst hj
  have hij : i = j := by simpa using hi
  subst hij
  have h0 := hp 0 (Fl.self t) rfl
  have hs := fV_sz h.1
  rw [t.n_rep] at hs
  refine ⟨⟨?_, trivial⟩, by rw [flat1]; exact fV_cells h.1⟩
  show pl[i]? = _
  rw [hs]; simpa [Fl.self] using h0
 | 1, t, o, j, ys, _ :: _ :: _, z, hp, hi, h, hj => h.2.elim
 | k + 2, .p s t, o, j, ys, [], z, hp, hi, h, hj => h.elim
 | k + 2, .p s t, o, j, ys, (i, v) :: ps, z, hp, hi, h, hj => by
  unfold joinP at hj
  split at hj
  ·next y hy =>
   obtain rfl := Option.some.inj hj
   simp only [List.map_cons, List.length_cons, List.range'_succ, List.cons.injEq] at hi
   obtain ⟨rfl, hi⟩ := hi
   have h0 := hp 0 _ fld0
   have hs := fV_sz h.1
   rw [s.n_rep] at hs
   obtain ⟨h1, h2⟩ := join_s (o := o + s.n) (j := i + 1) (pl := pl) (fun i' f hf => by
    have := hp (i' + 1) _ (fldS hf)
    rw [show i + 1 + i' = i + (i' + 1) by omega, this]
    simp only [Nat.add_assoc]) hi h.2 hy
   refine ⟨⟨?_, by rw [hs]; exact h1⟩, ?_⟩
   ·show pl[i]? = _
    rw [hs]; simpa using h0
   ·rw [flat_cons]; exact ⟨_, _, rfl, fV_cells h.1, h2⟩
  ·cases hj
 | k + 2, .i, _, _, _, _, _, _, _, _, h => by simp [joinP] at h
 | k + 2, .u, _, _, _, _, _, _, _, _, h => by simp [joinP] at h
 | k + 2, .b, _, _, _, _, _, _, _, _, h => by simp [joinP] at h
 | k + 2, .l _, _, _, _, _, _, _, _, _, h => by simp [joinP] at h
 | k + 2, .a _ _, _, _, _, _, _, _, _, _, h => by simp [joinP] at h
theorem listP_len : ∀ (n : Nat) (t : Ty) (ys : TsD (repT n t)), (listP n t ys).length = n
 | 0, _, _ => rfl
 | n + 1, t, ys => congrArg (·+ 1) (listP_len n t ys.2)
theorem list_s {t : Ty} : ∀ {n j : Nat} {ys : TsD (repT n t)} {ps : List (Nat × Value)}, ps.map (·.1) = List.range' j ps.length -> PH S w (repT n t) ys ps ->
  fillOK (fun i => some (i * t.rep.n, t.rep.n)) ps (j * t.rep.n) /\ Elems t.rep S (listP n t ys) (flat ps) w
 | 0, _, _, [], _, _ => ⟨trivial, rfl⟩
 | 0, _, _, _ :: _, _, h => h.elim
 | n + 1, _, _, [], _, h => h.elim
 | n + 1, j, ys, (i, v) :: ps, hi, h => by
  simp only [List.map_cons, List.length_cons, List.range'_succ, List.cons.injEq] at hi
  obtain ⟨rfl, hi⟩ := hi
  have hs := fV_sz h.1
  obtain ⟨h1, h2⟩ := list_s hi h.2
  refine ⟨⟨by rw [hs], ?_⟩, ?_⟩
  ·rw [hs, show i * t.rep.n + t.rep.n = (i + 1) * t.rep.n by rw [Nat.add_mul, Nat.one_mul]]; exact h1
  ·rw [flat_cons]; exact ⟨_, _, rfl, fV_cells h.1, h2⟩
theorem e_build (hT : TTok P cf.tt) {ps : Array (Nat × Operand)} {k : List (Nat × Dv) -> Option R} (h : eBuild cf cx σ t ps.toList k = some r) : ∃ l, k l = some r /\ ES P ⟨d, .build t ps, ty, pos, aft, g⟩ cx σ F l := by
 unfold eBuild at h
 split at h
 ·next e n B ht =>
  obtain ⟨zero, hz1, hz2, hz3⟩ := ty_of hT ht
  obtain ⟨hag, _, ⟨fs, hfs, pl, hpl, hpi⟩, _⟩ := (hT _ _ ht).2.2.2
  simp only at hz1 hz2 hz3 hag hpi
  split at h
  ·next hps =>
   obtain rfl : ps = #[] := by cases ps; simp_all
   exact ⟨_, h, es_oe fun env w S vs hM hl => ⟨_, _, _, _, [], [], oe_zero (e := e.rep) (z := e.z) (hag ▸ hz1) hag hz2 (.inl ⟨fs, hfs, pl, hpl⟩) hz3, trivial, trivial, fun u w' _ hf => one_of hf.1⟩⟩
  ·next i x hps =>
   obtain rfl : ps = #[(i, x)] := by cases ps; simp_all
   split at h
   ·next f hf =>
    obtain ⟨y, h, hy⟩ := asO_s h
    refine ⟨_, h, es_oe fun env w S vs hM hl => ⟨_, _, _, _, [fV f.f.rep y (ev env x)], [], oe_build1 (e := e.rep) (f := f.f.rep) (z0 := e.z) (y := y) (hag ▸ hz1) hag hz3 (fld_ok hf e.z) ⟨fs, hfs, hpl⟩ (by rw [f.f.n_rep]; exact hpi i f hf) rfl (fun S w h => h.1) rfl, trivial, ⟨hy P vs env S w (lk_of hl (by simp [Op.operands])), trivial⟩, fun u w' _ hf => one_of hf.1⟩⟩
   ·cases h
  ·next ps' hne1 hne2 =>
   obtain ⟨ys, h, hidx, hys⟩ := parts_s h
   split at h
   ·next z hz =>
    refine ⟨_, h, es_oe fun env w S vs hM hl => ?_⟩
    have hph := hys P vs env S w fun x hx => lk_of hl (by simpa [Op.operands] using hx)
    have hidx' : (ps.toList.map fun q : Nat × Operand => (q.1, ev env q.2)).map (·.1) = List.range' 0 (ps.toList.map fun q : Nat × Operand => (q.1, ev env q.2)).length := by rw [List.map_map, List.length_map]; exact hidx
    have hj := fun (S : Nat -> Prop) (w : World) (h : PH S w (flds n e) ys (ps.toList.map fun q : Nat × Operand => (q.1, ev env q.2))) => join_s (pl := pl) (o := 0) (j := 0) (fun i f hf => by rw [Nat.zero_add, Nat.zero_add]; exact hpi i f hf) hidx' h hz
    exact ⟨_, _, _, _, [phF _ ys (ps.toList.map fun q : Nat × Operand => (q.1, ev env q.2))], [], oe_build (e := e.rep) (z := z) (parts := ps.toList) (hag ▸ hz1) hag hz2 rfl (.inl ⟨fs, hfs, pl, hpl, fun S w h => (hj S w h.1).1⟩) (fun S w h => (hj S w h.1).2), trivial, ⟨hph, trivial⟩, fun u w' _ hf => one_of hf.1⟩
   ·cases h
 ·next n e n' E B ht =>
  obtain ⟨hg, h⟩ := grd_s h
  rw [Bool.and_eq_true] at hg
  have hn := beq_t hg.1
  subst hn
  obtain ⟨b2, z2, het⟩ := el_ty hT hg.2
  obtain ⟨ys, h, hidx, hys⟩ := parts_s h
  obtain ⟨zero, hz1, hz2, hz3⟩ := ty_of hT ht
  refine ⟨_, h, es_oe fun env w S vs hM hl => ?_⟩
  have hph := hys P vs env S w fun x hx => lk_of hl (by simpa [Op.operands] using hx)
  have hidx' : (ps.toList.map fun q : Nat × Operand => (q.1, ev env q.2)).map (·.1) = List.range' 0 (ps.toList.map fun q : Nat × Operand => (q.1, ev env q.2)).length := by rw [List.map_map, List.length_map]; exact hidx
  have hj := fun (S : Nat -> Prop) (w : World) (h : PH S w (repT n' e) ys (ps.toList.map fun q : Nat × Operand => (q.1, ev env q.2))) => list_s hidx' h
  exact ⟨_, _, _, _, [phF _ ys (ps.toList.map fun q : Nat × Operand => (q.1, ev env q.2))], [], oe_build (e := (Ty.a n' e).rep) (z := listP n' e ys) (parts := ps.toList) hz1 rfl hz2 rfl (.inr ⟨_, _, _, _, _, _, tk_ar hT ht, het, fun S w h => by have := (hj S w h.1).1; rwa [Nat.zero_mul] at this⟩) (fun S w h => ⟨listP_len n' e ys, (hj S w h.1).2⟩), trivial, ⟨hph, trivial⟩, fun u w' _ hf => one_of hf.1⟩
 ·cases h
theorem el_pos {s E : TypeId} {e : Ty} {B : Nat} (hT : TTok P cf.tt) (hL : ELok P cf.tt) (h : tyA cf s = some ⟨.l e, .sl E, B⟩) : 0 < e.rep.n := by
 obtain ⟨ti, h1, rfl⟩ := hL _ _ _ _ h
 exact (hT _ _ h1).2.2.1
theorem e_lit (hT : TTok P cf.tt) (hL : ELok P cf.tt) {n : Nat} {ps : Array (Nat × Operand)} {k : List (Nat × Dv) -> Option R} (h : eLit cf cx σ t n ps.toList k = some r) : ∃ l, k l = some r /\ ES P ⟨d, .buildSlice t n ps, ty, pos, aft, g⟩ cx σ F l := by
 unfold eLit at h
 split at h
 ·next e E B ht =>
  obtain ⟨hsm, h⟩ := grd_s h
  have hsm := Nat.le_of_ble_eq_true hsm
  rw [<- e.n_rep] at hsm
  obtain ⟨ys, h, hidx, hys⟩ := parts_s h
  obtain ⟨bytes, zero, het⟩ := ty_el hT hL ht
  refine ⟨_, h, es_oe fun env w S vs hM hl => ?_⟩
  have hph := hys P vs env S w fun x hx => lk_of hl (by simpa [Op.operands] using hx)
  have hidx' : (ps.toList.map fun q : Nat × Operand => (q.1, ev env q.2)).map (·.1) = List.range' 0 (ps.toList.map fun q : Nat × Operand => (q.1, ev env q.2)).length := by rw [List.map_map, List.length_map]; exact hidx
  have hj := fun (S : Nat -> Prop) (w : World) (h : PH S w (repT n e) ys (ps.toList.map fun q : Nat × Operand => (q.1, ev env q.2))) => list_s hidx' h
  exact ⟨_, _, _, _, [phF _ ys (ps.toList.map fun q : Nat × Operand => (q.1, ev env q.2))], [], oe_buildSlice (e := e.rep) (zs := listP n e ys) (parts := ps.toList) (tk_sl hT ht) het (el_pos hT hL ht) (listP_len n e ys) hsm rfl (fun S w h => by have := (hj S w h.1).1; rwa [Nat.zero_mul] at this) (fun S w h => (hj S w h.1).2), trivial, ⟨hph, trivial⟩, fun u w' _ hf => one_of hf.1⟩
 ·cases h
theorem caps_s : ∀ {xs : List Operand} {l : List PD}, caps cx σ xs = some l -> l.length = xs.length /\ ∀ (P : Program) vs env S w, (∀ x ∈ xs, LkO P vs env S w cx σ x) -> All S (capF l (xs.map (ev env))) w
 | [], l, h => by simp only [caps, Option.some.injEq] at h; subst h; exact ⟨rfl, fun _ _ _ _ _ _ => trivial⟩
 | x :: xs, l, h => by
  unfold caps at h
  split at h
  ·next t y l' hx hr =>
   simp only [Option.some.injEq] at h
   subst h
   obtain ⟨h1, h2⟩ := caps_s hr
   exact ⟨by simp [h1], fun P vs env S w hl => ⟨opv_hold hx (hl x (List.mem_cons_self ..)), h2 P vs env S w fun z hz => hl z (List.mem_cons_of_mem _ hz)⟩⟩
  ·cases h
theorem e_clo {f : Go.Fn} {first cs : Array Operand} {k : List (Nat × Dv) -> Option R} (h : eClo cx σ f first.toList cs.toList k = some r) : ∃ l, k l = some r /\ ES P ⟨d, .makeFunc f first cs, ty, pos, aft, g⟩ cx σ F l := by
 unfold eClo at h
 split at h
 ·next _ _ _ f' l hf hc =>
  obtain rfl : first = #[] := by cases first; simp_all
  obtain ⟨h1, h2⟩ := caps_s hc
  refine ⟨_, h, es_val fun env w S vs hl => ⟨_, r_mk (xs := cs.toList) rfl w, one_of ?_⟩⟩
  exact ⟨_, rfl, by simp [h1], h2 P vs env S w fun x hx => lk_of hl (by simpa [Op.operands] using hx)⟩
 ·cases h
end
end Go.Proofs.YtmggkmchbdanfaaGreat
end

section
set_option linter.unusedVariables false
set_option linter.unusedSimpArgs false
namespace Go.Proofs.YtmggkmchbdanfaaGreat
section
variable {P : Program} {cf : Cf} {cx σ : Sg} {F : List MF} {vs : Nat -> Value} {env : Env} {S : Nat -> Prop} {w : World} {R : Type} {r : R}
 {d : Option Tmp} {ty t yt : TypeId} {pos : String} {aft : Array Edge} {g : Option (Nat × Bool)} {x y : Operand}
theorem pair_cast {A B C : Type} (h : B = C) (p : (A × B) = (A × C)) (x : A × B) : (p ▸ x : A × C) = (x.1, h ▸ x.2) := by subst h; rfl
theorem St.sub' {we : World} {Se : Nat -> Prop} {ms : List MF} {Γ Δ : List FF} {w : World} (h : St we Se ms Γ w) (hs : ∀ f ∈ Δ, f ∈ Γ) : St we Se ms Δ w :=
 h.weak fun S w h => all_mem.2 fun f hf => all_mem.1 h f (hs f hf)
theorem rs_d {t : Ty} {n : RM} {r : List RM} (x : RsD (.d t :: n :: r)) : (RsD_ty (.d t :: n :: r) ▸ x : CsD ((RM.d t :: n :: r).map RM.ty)) = ((x.1, RsD_ty (n :: r) ▸ x.2) : t.D × CsD ((n :: r).map RM.ty)) :=
 pair_cast (A := t.D) (RsD_ty (n :: r)) (RsD_ty (.d t :: n :: r)) x
theorem rs_o {t : Ty} {E : TypeId} {n : RM} {r : List RM} (x : RsD (.own t E :: n :: r)) : (RsD_ty (.own t E :: n :: r) ▸ x : CsD ((RM.own t E :: n :: r).map RM.ty)) = ((x.1, RsD_ty (n :: r) ▸ x.2) : (Ty.l t).D × CsD ((n :: r).map RM.ty)) :=
 pair_cast (A := List t.D) (RsD_ty (n :: r)) (RsD_ty (.own t E :: n :: r)) x
theorem fz_rs {we : World} {Se : Nat -> Prop} : ∀ {rs : List RM} {x : RsD rs} {us : List Value} {F : List MF} {G : List FF} {w : World},
  St we Se (resMs rs x us ++ F) (resFs rs x us ++ G) w -> St we Se F (csF (rs.map RM.ty) (RsD_ty rs ▸ x) us ++ G) w
 | [], _, _, _, _, _, h => h
 | [.d t], x, us, F, G, w, h => h
 | [.own t E], x, us, F, G, w, h => by
  have h : St we Se (mO t.rep E (us.headD undef) x :: F) G w := h
  exact fz_own 0 h rfl
 | .d t :: n :: r, x, us, F, G, w, h => by
  rw [rs_d]
  have h : St we Se (resMs (n :: r) x.2 us.tail ++ F) (resFs (n :: r) x.2 us.tail ++ (fV t.rep x.1 (us.headD undef) :: G)) w := St.sub' (by simpa [resMs, resFs, rmM, rmF] using h) (by simp; rintro f (h | h | h) <;> simp [h])
  have := fz_rs h
  exact St.sub' this (by
   intro f hf
   rcases List.mem_append.1 hf with hf | hf
   ·rcases List.mem_cons.1 hf with rfl | hf
    ·exact List.mem_append.2 (.inr (List.mem_cons_self ..))
    ·exact List.mem_append.2 (.inl hf)
   ·exact List.mem_append.2 (.inr (List.mem_cons_of_mem _ hf)))
 | .own t E :: n :: r, x, us, F, G, w, h => by
  rw [rs_o]
  have h : St we Se (mO t.rep E (us.headD undef) x.1 :: (resMs (n :: r) x.2 us.tail ++ F)) (resFs (n :: r) x.2 us.tail ++ G) w := h
  have h := fz_own 0 h rfl
  have h : St we Se (resMs (n :: r) x.2 us.tail ++ F) (resFs (n :: r) x.2 us.tail ++ (fV (eS t.rep) x.1 (us.headD undef) :: G)) w := St.sub' h (by simp; rintro f (h | h | h) <;> simp [h])
  have := fz_rs h
  exact St.sub' this (by
   intro f hf
   rcases List.mem_append.1 hf with hf | hf
   ·rcases List.mem_cons.1 hf with rfl | hf
    ·exact List.mem_append.2 (.inr (List.mem_cons_self ..))
    ·exact List.mem_append.2 (.inl hf)
   ·exact List.mem_append.2 (.inr (List.mem_cons_of_mem _ hf)))
theorem resX_T : ∀ {rs : List RM} {x : RsD rs} {i : Nat}, resX rs x i = resT (rs.map RM.ty) (RsD_ty rs ▸ x) i
 | [], _, _ => rfl
 | [.d _], _, _ => rfl
 | [.own _ _], _, _ => rfl
 | .d t :: n :: r, x, i => by rw [rs_d]; show (i, Dv.d t x.1) :: resX (n :: r) x.2 (i + 1) = _; rw [resX_T]; rfl
 | .own t E :: n :: r, x, i => by rw [rs_o]; show (i, Dv.d (.l t) x.1) :: resX (n :: r) x.2 (i + 1) = _; rw [resX_T]; rfl
theorem oneRes_T : ∀ rs : List RM, oneRes rs = oneT (rs.map RM.ty)
 | [] => rfl
 | [_] => rfl
 | _ :: _ :: _ => rfl
theorem resT_s : ∀ {ts : List Ty} {x : CsD ts} {i : Nat} {us : List Value}, All S (csF ts x us) w -> us.length = ts.length -> ∀ e ∈ resT ts x i, ∃ j u, e.1 = i + j /\ us[j]? = some u /\ (hold P vs e.2 u).p S w
 | [], _, _, _, _, _, e, he => absurd he List.not_mem_nil
 | [t], x, i, [], h, hl, e, he => by cases hl
 | [t], x, i, u :: us, h, hl, e, he => by
  obtain rfl := List.mem_singleton.1 he
  exact ⟨0, u, rfl, rfl, h.1⟩
 | t :: s :: r, x, i, [], h, hl, e, he => by cases hl
 | t :: s :: r, x, i, u :: us, h, hl, e, he => by
  rcases List.mem_cons.1 he with rfl | he
  ·exact ⟨0, u, rfl, rfl, h.1⟩
  ·obtain ⟨j, v, h1, h2, h3⟩ := resT_s (i := i + 1) h.2 (by simpa using hl) e he
   exact ⟨j + 1, v, by omega, by simpa using h2, h3⟩
theorem res_hold : ∀ {ts : List Ty} {x : CsD ts} {us : List Value}, All S (csF ts x us) w -> us.length = ts.length -> ∀ e ∈ resT ts x (bif oneT ts then 0 else 1), (holdC P vs e.2 (oneOr us) e.1).p S w
 | [], _, _, _, _, e, he => absurd he List.not_mem_nil
 | [t], x, [], _, hl, _, _ => by cases hl
 | [t], x, [v], h, hl, e, he => by
  obtain rfl := List.mem_singleton.1 he
  exact h.1
 | [t], x, _ :: _ :: _, _, hl, _, _ => by simp at hl
 | t :: s :: q, x, [], _, hl, _, _ => by cases hl
 | t :: s :: q, x, [_], _, hl, _, _ => by simp at hl
 | t :: s :: q, x, v :: v' :: us, h, hl, e, he => by
  obtain ⟨j, u, h1, h2, h3⟩ := resT_s (P := P) (vs := vs) h hl e he
  obtain ⟨i, dv⟩ := e
  simp only [oneT, cond_false] at h1
  obtain rfl : i = j + 1 := by omega
  exact ⟨(v :: v' :: us).toArray, u, rfl, by simpa using h2, h3⟩
theorem sigOf_s : ∀ {cs : List Sig} {f : FuncId} {s : Sig}, sigOf cs f = some s -> s ∈ cs /\ s.f = f /\ noOwn s.dom = true /\ s.bk = 0
 | c :: cs, f, s, h => by
  unfold sigOf at h
  cases hb : Nat.beq c.f f && (noOwn c.dom && Nat.beq c.bk 0) <;> rw [hb] at h
  ·obtain ⟨h1, h2⟩ := sigOf_s h; exact ⟨List.mem_cons_of_mem _ h1, h2⟩
  ·simp only [cond_true, Option.some.injEq] at h
   subst h
   rw [Bool.and_eq_true, Bool.and_eq_true] at hb
   exact ⟨List.mem_cons_self .., beq_t hb.1, hb.2.1, beq_t hb.2.2⟩
theorem argMs_no : ∀ {dom : List AM} {x : AsD dom} {us : List Value}, noOwn dom = true -> argMs dom x us = []
 | [], _, _, _ => rfl
 | .d _ :: r, x, us, h => argMs_no (dom := r) (x := x.2) (us := us.tail) h
 | .q _ :: r, x, us, h => argMs_no (dom := r) (x := x.2) (us := us.tail) h
 | .fn _ _ :: r, x, us, h => argMs_no (dom := r) (x := x.2) (us := us.tail) h
 | .own _ _ :: _, _, _, h => by cases h
theorem feedC_s : ∀ {full : List AM} {cs : List PD} {z : AsD full}, feedC full cs = some z -> cs.length = full.length /\ ∀ {S : Nat -> Prop} {w : World} {cvs : List Value}, cvs.length = cs.length -> All S (capF cs cvs) w -> All S (argFs P full z cvs) w
 | [], [], _, _ => ⟨rfl, fun _ _ => trivial⟩
 | .q t :: r, c :: cs, z, h => by
  simp only [feedC] at h
  obtain ⟨e, h⟩ := cast_s h
  subst e
  split at h
  ·next z' hz =>
   obtain rfl := Option.some.inj h
   obtain ⟨h1, h2⟩ := feedC_s hz
   refine ⟨by simp [h1], fun {S w cvs} hl ha => ?_⟩
   cases cvs with
   | nil => cases hl
   | cons v cvs => exact ⟨ha.1, h2 (by simpa using hl) ha.2⟩
  ·cases h
 | [], _ :: _, _, h => by simp [feedC] at h
 | .q _ :: _, [], _, h => by simp [feedC] at h
 | .d _ :: _, _, _, h => by simp [feedC] at h
 | .own _ _ :: _, _, _, h => by simp [feedC] at h
 | .fn _ _ :: _, _, _, h => by simp [feedC] at h
theorem feed_s : ∀ {full : List AM} {dom : List Ty} {x : TsD dom} {cs : List PD} {z : AsD full}, feed full dom x cs = some z -> dom.length + cs.length = full.length /\
  ∀ {S : Nat -> Prop} {w : World} {us cvs : List Value}, us.length = dom.length -> cvs.length = cs.length -> All S (tsF dom x us) w -> All S (capF cs cvs) w -> All S (argFs P full z (us ++ cvs)) w
 | full, [], x, cs, z, h => by
  have h : feedC full cs = some z := by cases full <;> (try cases ‹AM›) <;> simpa [feed] using h
  obtain ⟨h1, h2⟩ := feedC_s (P := P) h
  refine ⟨by simp [h1], fun {S w us cvs} hl hl' _ ha => ?_⟩
  obtain rfl := List.length_eq_zero_iff.1 hl
  exact h2 hl' ha
 | .d t :: r, s :: dom, x, cs, z, h => by
  simp only [feed] at h
  obtain ⟨e, h⟩ := cast_s h
  subst e
  split at h
  ·next z' hz =>
   obtain rfl := Option.some.inj h
   obtain ⟨h1, h2⟩ := feed_s hz
   refine ⟨by simp; omega, fun {S w us cvs} hl hl' ht ha => ?_⟩
   cases us with
   | nil => cases hl
   | cons v us => exact ⟨ht.1, h2 (by simpa using hl) hl' ht.2 ha⟩
  ·cases h
 | [], _ :: _, _, _, _, h => by simp [feed] at h
 | .q _ :: _, _ :: _, _, _, _, h => by simp [feed] at h
 | .own _ _ :: _, _ :: _, _, _, _, h => by simp [feed] at h
 | .fn _ _ :: _, _ :: _, _, _, _, h => by simp [feed] at h
theorem opt_cast {A B : Type} (h : A = B) {o : Option A} {r : B} (ho : (h ▸ o : Option B) = some r) : ∃ r' : A, o = some r' /\ (h ▸ r' : B) = r := by
 subst h; exact ⟨r, ho, rfl⟩
theorem sig_frozen {s : Sig} (hs : SigOK P s) (hn : noOwn s.dom = true) (hk : s.bk = 0) {z : AsD s.dom} {q : RsD s.cod} (hz : s.M z = some q) {us : List Value} (hl : us.length = s.dom.length) :
  Fn P s.f us.toArray (argFs P s.dom z us) oneOr (fun us => csF (s.cod.map RM.ty) (RsD_ty s.cod ▸ q) us) (fun us => us.length = s.cod.length) := by
 have h := hs.plain hk hz hl
 rw [argMs_no hn] at h
 refine FnG.frozen h fun u w' we Se hst => ?_
 have := fz_rs (rs := s.cod) (x := q) (us := u) (F := []) (G := []) (by simpa using hst)
 simpa using this
theorem Fn.weakΓ {U : Type} {f : FuncId} {args : Array Value} {Γ Γ' : List FF} {val : U -> Value} {facts : U -> List FF} {ok : U -> Prop} (h : Fn P f args Γ val facts ok) (hs : ∀ S w, All S Γ' w -> All S Γ w) : Fn P f args Γ' val facts ok :=
 fun w Se h1 h2 => h w Se h1 (hs Se w h2)
theorem asF_s (hC : ∀ s ∈ cf.cs, SigOK P s) {v : Option Dv} {dom cod : List Ty} {k : (TsD dom -> Option (CsD cod)) -> Option R} (h : asF cf σ v dom cod k = some r) :
  ∃ g, k g = some r /\ ∀ vs S w (dv : Dv) u, v = some dv -> (hold P vs dv u).p S w -> (fnF P dom cod g u).p S w := by
 unfold asF at h
 split at h
 ·next f c =>
  split at h
  ·next s hs =>
   obtain ⟨h1, h2, h3, h4⟩ := sigOf_s hs
   have hok := hC s h1
   split at h
   ·next hsame _ =>
    subst hsame
    refine ⟨_, h, fun vs S w dv u hd hh => ?_⟩
    cases hd
    obtain ⟨cs, hu, hcl, hca⟩ := hh
    refine ⟨f, cs, capF c cs, hu, ⟨h2 ▸ hok.1, fun x q hx us hl => ?_⟩, hca⟩
    simp only at hx
    split at hx
    ·next z hz =>
     obtain ⟨q', hq1, hq2⟩ := opt_cast _ hx
     obtain ⟨hlen, hfacts⟩ := feed_s (P := P) hz
     have hfn := sig_frozen hok h3 h4 hq1 (us := us ++ cs) (by simp; omega)
     rw [h2] at hfn
     subst hq2
     refine (hfn.weakΓ fun S w ha => hfacts hl hcl (All.left ha) (All.right ha)).ok_mono fun us hus => by simpa using hus
    ·cases hx
   ·cases h
  ·cases h
 ·next d' c' g' =>
  split at h
  ·next hd hc _ _ =>
   subst hd; subst hc
   exact ⟨_, h, fun vs S w dv u hdv hh => by cases hdv; exact hh⟩
  ·cases h
 ·cases h
end
end Go.Proofs.YtmggkmchbdanfaaGreat
end

section
set_option linter.unusedVariables false
set_option linter.unusedSimpArgs false
namespace Go.Proofs.YtmggkmchbdanfaaGreat
def EXok (P : Program) (ex : List (Nat × Bool)) : Prop := ∀ f b, fndA ex f = some b -> ∃ fn, P.funcs[f]? = some fn /\ (fn.name == "runtime.NumGoroutine") = false /\ fn.body = none /\ (Extern.findNext fn).isNone = true /\
 (b = true -> Extern.find fn = some (fun args => do
   let (x, y, c) <- Extern.MathBitsCarry.three "Add64" args
   pure (Extern.MathBitsCarry.pair ((x + y + c) % Extern.MathBitsCarry.m64) ((x + y + c) / Extern.MathBitsCarry.m64)))) /\
 (b = false -> Extern.find fn = some (fun args => do
   let (x, y, b) <- Extern.MathBitsCarry.three "Sub64" args
   pure (Extern.MathBitsCarry.pair ((x + Extern.MathBitsCarry.m64 - y - b) % Extern.MathBitsCarry.m64) (if x < y + b then 1 else 0))))
section
variable {P : Program} {cf : Cf} {cx σ : Sg} {F : List MF} {vs : Nat -> Value} {env : Env} {S : Nat -> Prop} {w : World} {R : Type} {r : R}
 {d : Option Tmp} {ty t yt : TypeId} {pos : String} {aft : Array Edge} {g : Option (Nat × Bool)} {x y : Operand}
theorem exT_s {x y z : Nat} {k : List (Nat × Dv) -> Option R} (h : exU true x y z k = some r) : z <= 1 /\ ∃ p q : Nat, p = (x + y + z) % 18446744073709551616 /\ q = (x + y + z) / 18446744073709551616 /\ k [(1, .d .u p), (2, .d .u q)] = some r := by
 obtain ⟨h1, h⟩ := ck_s h
 obtain ⟨p, hp, h⟩ := nm_s h
 obtain ⟨q, hq, h⟩ := nm_s h
 exact ⟨h1, p, q, hp, hq, h⟩
theorem exF_s {x y z : Nat} {k : List (Nat × Dv) -> Option R} (h : exU false x y z k = some r) : z <= 1 /\ ∃ p q : Nat, p = (x + 18446744073709551616 - y - z) % 18446744073709551616 /\ q = (if x < y + z then 1 else 0) /\ k [(1, .d .u p), (2, .d .u q)] = some r := by
 obtain ⟨h1, h⟩ := ck_s h
 obtain ⟨p, hp, h⟩ := nm_s h
 obtain ⟨q, hq, h⟩ := nm_s h
 exact ⟨h1, p, q, hp, hq, h⟩
theorem argsE_s (hC : ∀ s ∈ cf.cs, SigOK P s) : ∀ {dom : List AM} {xs : List Operand} {cs : List PD} {k : AsD dom -> Option R}, argsE cf cx σ dom xs cs k = some r ->
  ∃ z, k z = some r /\ xs.length + cs.length = dom.length /\ ∀ vs env S w, (∀ x ∈ xs, LkO P vs env S w cx σ x) -> ∀ cvs : List Value, cvs.length = cs.length -> All S (capF cs cvs) w -> All S (argFs P dom z (xs.map (ev env) ++ cvs)) w
 | [], [], [], k, h => ⟨(), h, rfl, fun _ _ _ _ _ _ _ _ => trivial⟩
 | .q t :: dom, [], c :: cs, k, h => by
  simp only [argsE] at h
  obtain ⟨e, h⟩ := cast_s h
  subst e
  obtain ⟨z, h1, h2, h3⟩ := argsE_s hC h
  refine ⟨_, h1, by simp at h2 ⊢; omega, fun vs env S w hl cvs hcl hca => ?_⟩
  cases cvs with
  | nil => cases hcl
  | cons v cvs => exact ⟨hca.1, h3 vs env S w hl cvs (by simpa using hcl) hca.2⟩
 | .d t :: dom, x :: xs, cs, k, h => by
  simp only [argsE] at h
  obtain ⟨y, h, hy⟩ := asO_s h
  obtain ⟨z, h1, h2, h3⟩ := argsE_s hC h
  exact ⟨_, h1, by simp at h2 ⊢; omega, fun vs env S w hl cvs hcl hca => ⟨hy P vs env S w (hl x (List.mem_cons_self ..)), h3 vs env S w (fun z hz => hl z (List.mem_cons_of_mem _ hz)) cvs hcl hca⟩⟩
 | .q t :: dom, x :: xs, cs, k, h => by
  simp only [argsE] at h
  split at h
  ·next s y hx =>
   obtain ⟨e, h⟩ := cast_s h
   subst e
   obtain ⟨z, h1, h2, h3⟩ := argsE_s hC h
   exact ⟨_, h1, by simp at h2 ⊢; omega, fun vs env S w hl cvs hcl hca => ⟨opv_hold hx (hl x (List.mem_cons_self ..)), h3 vs env S w (fun z hz => hl z (List.mem_cons_of_mem _ hz)) cvs hcl hca⟩⟩
  ·cases h
 | .fn dom' cod :: dom, x :: xs, cs, k, h => by
  simp only [argsE] at h
  obtain ⟨f, h, hf⟩ := asF_s hC h
  obtain ⟨z, h1, h2, h3⟩ := argsE_s hC h
  refine ⟨_, h1, by simp at h2 ⊢; omega, fun vs env S w hl cvs hcl hca => ⟨?_, h3 vs env S w (fun z hz => hl z (List.mem_cons_of_mem _ hz)) cvs hcl hca⟩⟩
  cases hv : opv cx σ x with
  | none => rename_i h0; rw [hv] at h0; simp [asF] at h0
  | some v => exact hf vs S w v _ hv (opv_hold hv (hl x (List.mem_cons_self ..)))
 | [], _ :: _, _, _, h => by simp [argsE] at h
 | [], [], _ :: _, _, h => by simp [argsE] at h
 | .d _ :: _, [], _, _, h => by simp [argsE] at h
 | .own _ _ :: _, _, _, _, h => by simp [argsE] at h
 | .fn _ _ :: _, [], _, _, h => by simp [argsE] at h
 | .q _ :: _, [], [], _, h => by simp [argsE] at h
theorem argsT_s : ∀ {dom : List Ty} {xs : List Operand} {k : TsD dom -> Option R}, argsT cx σ dom xs k = some r ->
  ∃ z, k z = some r /\ xs.length = dom.length /\ ∀ (P : Program) vs env S w, (∀ x ∈ xs, LkO P vs env S w cx σ x) -> All S (tsF dom z (xs.map (ev env))) w
 | [], [], k, h => ⟨(), h, rfl, fun _ _ _ _ _ _ => trivial⟩
 | t :: dom, x :: xs, k, h => by
  simp only [argsT] at h
  obtain ⟨y, h, hy⟩ := asO_s h
  obtain ⟨z, h1, h2, h3⟩ := argsT_s h
  exact ⟨_, h1, by simp [h2], fun P vs env S w hl => ⟨hy P vs env S w (hl x (List.mem_cons_self ..)), h3 P vs env S w (fun z hz => hl z (List.mem_cons_of_mem _ hz))⟩⟩
 | [], _ :: _, _, h => by simp [argsT] at h
 | _ :: _, [], _, h => by simp [argsT] at h
theorem e_call (hC : ∀ s ∈ cf.cs, SigOK P s) (hX : EXok P cf.ex) {f : Operand} {ags : Array Operand} {ts : Array TypeId} {k : List (Nat × Dv) -> Option R} (h : eCall cf cx σ f ags.toList k = some r) :
  ∃ l, k l = some r /\ ES P ⟨d, .call ⟨.value f, ags, ts⟩, ty, pos, aft, g⟩ cx σ F l := by
 have hf : ∀ {vs env S w}, (∀ t' ∈ tmpsOf (.call ⟨.value f, ags, ts⟩), Lk P vs env S w cx σ t') -> LkO P vs env S w cx σ f := fun hl => lk_of hl (by simp [Op.operands, Call.operands])
 have ha : ∀ {vs env S w}, (∀ t' ∈ tmpsOf (.call ⟨.value f, ags, ts⟩), Lk P vs env S w cx σ t') -> ∀ x ∈ ags.toList, LkO P vs env S w cx σ x := fun hl x hx => lk_of hl (by
  simp only [Op.operands, Call.operands, Array.toList_append, List.mem_append]; exact .inr hx)
 unfold eCall at h
 split at h
 ·next f0 cs hfv =>
  split at h
  ·next s hs =>
   obtain ⟨h1, h2, h3, h4⟩ := sigOf_s hs
   have hok := hC s h1
   obtain ⟨z, h, hlen, hz⟩ := argsE_s hC h
   obtain ⟨q, hq, h⟩ := bd_s h
   refine ⟨_, h, es_oe fun env w S vs hM hl => ?_⟩
   obtain ⟨cvs, hv, hcl, hca⟩ := opv_hold hfv (hf hl)
   have hfn := sig_frozen hok h3 h4 hq (us := ags.toList.map (ev env) ++ cvs) (by simp at hlen ⊢; omega)
   rw [h2] at hfn
   refine ⟨_, _, _, _, argFs P s.dom z (ags.toList.map (ev env) ++ cvs), [], oe_callv (asv := ags.toList) (h2 ▸ hok.1) hv hfn rfl (fun S w h => h), trivial, hz vs env S w (ha hl) cvs hcl hca, fun us w' hus hfs => ?_⟩
   unfold resD
   rw [resX_T, oneRes_T]
   exact res_hold hfs (by simpa using hus)
  ·split at h
   ·next _ _ _ b x y z hb hags =>
    obtain rfl : ags = #[x, y, z] := by cases ags; simp_all
    obtain ⟨hfo, h⟩ := grd_s h
    cases f with
    | func f1 =>
     simp only [opv, Option.some.injEq, Dv.fn.injEq] at hfv
     obtain ⟨rfl, _⟩ := hfv
     obtain ⟨fn, e1, e2, e3, e4, e5, e6⟩ := hX _ _ hb
     unfold exD at h
     split at h
     ·next x' y' z' hx hy hz =>
      cases b
      ·obtain ⟨hz1, p, q, hp, hq, h⟩ := exF_s h
       refine ⟨_, h, es_val fun env w S vs hl => ?_⟩
       have hx' := pd_u hx (ha hl x (by simp)); have hy' := pd_u hy (ha hl y (by simp)); have hz' := pd_u hz (ha hl z (by simp))
       refine ⟨_, v_2 (r_sub64 e1 e2 e3 e4 (e6 rfl) hx'.1 hy'.1 hz'.1 hz1) hp hq w, fun e he => ?_⟩
       rcases List.mem_cons.1 he with rfl | he
       ·exact ⟨_, _, rfl, rfl, u64_fV (eq_mod_r hp)⟩
       ·obtain rfl := List.mem_singleton.1 he
        exact ⟨_, _, rfl, rfl, u64_fV (sub64_r hx'.2 hy'.2 hz1 hq)⟩
      ·obtain ⟨hz1, p, q, hp, hq, h⟩ := exT_s h
       refine ⟨_, h, es_val fun env w S vs hl => ?_⟩
       have hx' := pd_u hx (ha hl x (by simp)); have hy' := pd_u hy (ha hl y (by simp)); have hz' := pd_u hz (ha hl z (by simp))
       refine ⟨_, v_2 (r_add64 e1 e2 e3 e4 (e5 rfl) hx'.1 hy'.1 hz'.1 hz1) hp hq w, fun e he => ?_⟩
       rcases List.mem_cons.1 he with rfl | he
       ·exact ⟨_, _, rfl, rfl, u64_fV (eq_mod_r hp)⟩
       ·obtain rfl := List.mem_singleton.1 he
        exact ⟨_, _, rfl, rfl, u64_fV (add64_r hx'.2 hy'.2 hz1 hq)⟩
     ·cases h
    | _ => simp [isFn] at hfo
   ·cases h
 ·next dom cod g' hfv =>
  obtain ⟨z, h, hlen, hz⟩ := argsT_s h
  obtain ⟨q, hq, h⟩ := bd_s h
  refine ⟨_, h, es_oe fun env w S vs hM hl => ?_⟩
  obtain ⟨fid, caps, FG, hv, ⟨hb, hsp⟩, hFG⟩ := opv_hold hfv (hf hl)
  have hfn := hsp z q hq (ags.toList.map (ev env)) (by simpa using hlen)
  exact ⟨_, _, _, _, tsF dom z (ags.toList.map (ev env)) ++ FG, [], oe_callv (asv := ags.toList) hb hv hfn rfl (fun S w h => h), trivial, All.append (hz P vs env S w (ha hl)) hFG, fun us w' hus hfs => res_hold hfs hus⟩
 ·cases h
theorem e_all0 (hT : TTok P cf.tt) (hL : ELok P cf.tt) (hC : ∀ s ∈ cf.cs, SigOK P s) (hX : EXok P cf.ex) {op : Op} {k : List (Nat × Dv) -> Option R} (h : eOp0 cf cx σ op k = some r) : ∃ l, k l = some r /\ ES P ⟨d, op, ty, pos, aft, g⟩ cx σ F l := by
 unfold eOp0 at h
 split at h
 ·exact e_move (.inl rfl) h
 ·exact e_move (.inr rfl) h
 ·exact e_ext h
 ·exact e_pick h
 ·exact e_not h
 ·exact e_neg h
 ·exact bop h (tk_bool hT)
 ·exact e_cvt hT h
 ·exact e_load hT h
 ·exact e_index hT hL h
 ·exact e_field hT h
 ·exact e_fieldV hT h
 ·exact e_slice hT hL h
 ·exact e_idx hT h
 ·exact e_box h
 ·exact e_build hT h
 ·exact e_lit hT hL h
 ·exact e_clo h
 ·exact e_len hT h
 ·exact e_mm (b := true) h
 ·exact e_mm (b := false) h
 ·exact e_call hC hX h
 ·cases h
end
end Go.Proofs.YtmggkmchbdanfaaGreat
end

section
set_option linter.unusedVariables false
set_option linter.unusedSimpArgs false
namespace Go.Proofs.YtmggkmchbdanfaaGreat
def CSigOK (P : Program) (s : CSig) : Prop :=
 fnB P s.f = true /\ ∀ (x : TsD s.dom) (vs : List Value), vs.length = s.dom.length -> Fn P s.f vs.toArray (tsF s.dom x vs) (fun v : Value => v) (fun v => [cloF s.g (s.mc x) v]) (fun _ => True)
def MSigOK (P : Program) (s : MSig) : Prop :=
 fnB P s.f = true /\ ∀ xss ix r a p lo n xss', s.M xss ix r a p lo n = some xss' -> ∀ (u hr hv : Value), (hvW u)[r]? = some hr -> MvV (outW u) lo n hv -> InR a -> InR p ->
  ∀ we Se F G w, St we Se (mMt s.t.rep s.E s.E1 u xss ix :: F) G w -> Calls P s.f #[hr, .int .i64 a, .int .i64 p, hv] w fun e w' => ∃ v u', e = .returned v /\ outW u' = outW u /\ St we Se (mMt s.t.rep s.E s.E1 u' xss' ix :: F) G w'
def ISigOK (P : Program) (s : ISig) : Prop :=
 fnB P s.f = true /\ ∀ (x : AsD s.dom) (X Y : Type) (mX : X -> Value -> MF) (mY : Y -> Value -> MF) (g : List s.t.D -> X -> Option (List s.t.D × (X ⊕ Y))) (x0 : X) (r : X ⊕ Y), s.M x g x0 = some r -> ∀ (l : Nat) (vs : List Value), vs.length = s.dom.length -> YSpec P l s.t.rep s.E mX mY g ->
  ∀ u we Se F G w, St we Se (mX x0 u :: F) (argFs P s.dom x vs ++ G) w -> Calls P s.f (.func (.yield l) #[] #[] :: vs).toArray w fun e w' => (∃ v, e = .returned v) /\ ∃ u', St we Se (Sum.elim (fun x => mX x u') (fun y => mY y u') r :: F) G w'
structure XOK (P : Program) (cf : Cf) : Prop where
 ex : EXok P cf.ex
 cl : ∀ s ∈ cf.cl, CSigOK P s
 ms : ∀ s ∈ cf.ms, MSigOK P s
 is : ∀ s ∈ cf.is, ISigOK P s
 pp : P = Tryz.prog
section
variable {P : Program} {cf : Cf} {cx σ : Sg} {F : List MF} {vs : Nat -> Value} {env : Env} {S : Nat -> Prop} {w : World} {R : Type} {r : R}
 {d : Option Tmp} {ty t yt : TypeId} {pos : String} {aft : Array Edge} {g : Option (Nat × Bool)} {x y : Operand}
theorem fndM_s {f : FuncId} : ∀ {l : List MSig} {s : MSig}, fndM l f = some s -> s ∈ l /\ s.f = f
 | c :: l, s, h => by
  unfold fndM at h
  cases hb : Nat.beq c.f f <;> rw [hb] at h
  ·obtain ⟨h1, h2⟩ := fndM_s h; exact ⟨List.mem_cons_of_mem _ h1, h2⟩
  ·simp only [cond_true, Option.some.injEq] at h
   subst h; exact ⟨List.mem_cons_self .., beq_t hb⟩
theorem fndC_s {f : FuncId} : ∀ {l : List CSig} {s : CSig}, fndC l f = some s -> s ∈ l /\ s.f = f
 | c :: l, s, h => by
  unfold fndC at h
  cases hb : Nat.beq c.f f <;> rw [hb] at h
  ·obtain ⟨h1, h2⟩ := fndC_s h; exact ⟨List.mem_cons_of_mem _ h1, h2⟩
  ·simp only [cond_true, Option.some.injEq] at h
   subst h; exact ⟨List.mem_cons_self .., beq_t hb⟩
theorem fndI_s {f : FuncId} : ∀ {l : List ISig} {s : ISig}, fndI l f = some s -> s ∈ l /\ s.f = f
 | c :: l, s, h => by
  unfold fndI at h
  cases hb : Nat.beq c.f f <;> rw [hb] at h
  ·obtain ⟨h1, h2⟩ := fndI_s h; exact ⟨List.mem_cons_of_mem _ h1, h2⟩
  ·simp only [cond_true, Option.some.injEq] at h
   subst h; exact ⟨List.mem_cons_self .., beq_t hb⟩
theorem mt_s {α : Type} {e : ERep α} {E E1 : TypeId} {u : Value} {xss : List (List α)} {ix : List Nat} (h : (mMt e E E1 u xss ix).p S w) : (hvW u).length = xss.length /\ (mO (eHd (hvW u)) E (outW u) ix).p S w /\ AllM S (mRows e E1 (hvW u) xss) w := ⟨h.1.1, h.1.2.1, h.1.2.2⟩
theorem mt_row {α : Type} {e : ERep α} {E E1 : TypeId} {u v : Value} {xss : List (List α)} {ix : List Nat} {r : Nat} (h : (mMt e E E1 u xss ix).p S w) (hr : (hvW u)[r]? = some v) : (mO e E1 v (rowAt xss r)).p S w /\ r < xss.length := by
 obtain ⟨h1, _, h3⟩ := mt_s h
 have hl := (List.getElem?_eq_some_iff.1 hr).1
 have h4 : xss[r]? = some (rowAt xss r) := by
  unfold rowAt
  rw [List.getD_eq_getElem?_getD, List.getElem?_eq_getElem (by omega)]; rfl
 exact ⟨AllM.get h3 (mRows_get hr h4), by omega⟩
theorem co_index (hT : TTok P cf.tt) (hL : ELok P cf.tt) {k : List (Nat × Dv) -> Option R} (h : coIndex cf cx σ t x y k = some r) : ∃ l, k l = some r /\ ES P ⟨d, .indexAddr t x y, ty, pos, aft, g⟩ cx σ F l := by
 have hx : ∀ {vs env S w}, (∀ t' ∈ tmpsOf (.indexAddr t x y), Lk P vs env S w cx σ t') -> LkO P vs env S w cx σ x := fun hl => lk_of hl (by simp [Op.operands])
 have hy : ∀ {vs env S w}, (∀ t' ∈ tmpsOf (.indexAddr t x y), Lk P vs env S w cx σ t') -> LkO P vs env S w cx σ y := fun hl => lk_of hl (by simp [Op.operands])
 unfold coIndex at h
 split at h
 ·next e E B o ht hxv =>
  split at h
  ·next s E' E1 xss ix ho =>
   obtain ⟨bytes, zero, het⟩ := ty_el hT hL ht
   obtain ⟨j, hj, h, hjv⟩ := at_s h
   refine ⟨_, h, ?_⟩
   intro env w S vs hS hM hl
   obtain ⟨ik, hik⟩ := hjv P vs env S w (hy hl)
   have hm : (mMt s.rep E' E1 (vs o) xss ix).p S w := geto_M hM ho
   obtain ⟨b, cap, hv, _⟩ := own_open (mt_s hm).2.1 (Nat.lt_of_le_of_lt (Nat.zero_le _) hj)
   have hxe : ev env x = outW (vs o) := opv_hold hxv (hx hl)
   exact OpR.of_value (r_index (tk_sl hT ht) het (hxe.trans hv) hik hj w) ⟨Keeps.refl _ _, one_of ⟨b, _, _, hv, hj, rfl⟩⟩
  ·cases h
 ·next e E B o lo n ht hxv =>
  split at h
  ·next s E' E1 xss ix ho =>
   obtain ⟨bytes, zero, het⟩ := ty_el hT hL ht
   obtain ⟨j, hj, h, hjv⟩ := at_s h
   refine ⟨_, h, ?_⟩
   intro env w S vs hS hM hl
   obtain ⟨ik, hik⟩ := hjv P vs env S w (hy hl)
   rcases (opv_hold hxv (hx hl) : MvV _ _ _ _).old with ⟨b, m, cap, c, q1, q2, q3, q4, q5⟩ | ⟨q1, _⟩
   ·refine OpR.of_value (r_index (tk_sl hT ht) het q5 hik hj w) ⟨Keeps.refl _ _, one_of ⟨b, _, _, q1, by omega, ?_⟩⟩
    show Value.pointer (some ⟨b, 0 + lo * 1 + j * 1, none⟩) = Value.pointer (some ⟨b, 0 + (lo + j) * 1, none⟩)
    rw [Nat.add_mul, Nat.add_assoc]
   ·omega
  ·cases h
 ·next e E B o p ht hxv =>
  split at h
  ·next s E' E1 xss ix ho =>
   obtain ⟨hse, h1⟩ := cast_s h
   cases hse
   obtain ⟨bytes, zero, het⟩ := ty_el hT hL ht
   obtain ⟨j, hj, h, hjv⟩ := at_s h1
   refine ⟨_, h, ?_⟩
   intro env w S vs hS hM hl
   obtain ⟨ik, hik⟩ := hjv P vs env S w (hy hl)
   have hm : (mMt e.rep E' E1 (vs o) xss ix).p S w := geto_M hM ho
   have hxe : (hvW (vs o))[p]? = some (ev env x) := opv_hold hxv (hx hl)
   obtain ⟨b, cap, hv, _⟩ := own_open (mt_row hm hxe).1 (Nat.lt_of_le_of_lt (Nat.zero_le _) hj)
   refine OpR.of_value (r_index (tk_sl hT ht) het hv hik hj w) ⟨Keeps.refl _ _, one_of ⟨fun z => Sub.self e.rep z, b, _, _, by rw [<- hv]; exact hxe, hj, by simp [Fl.self]⟩⟩
  ·cases h
 ·cases h
theorem co_load (hT : TTok P cf.tt) {k : List (Nat × Dv) -> Option R} (h : coLoad cf cx σ t x k = some r) : ∃ l, k l = some r /\ ES P ⟨d, .load t x, ty, pos, aft, g⟩ cx σ F l := by
 have hx : ∀ {vs env S w}, (∀ t' ∈ tmpsOf (.load t x), Lk P vs env S w cx σ t') -> LkO P vs env S w cx σ x := fun hl => lk_of hl (by simp [Op.operands])
 unfold coLoad at h
 split at h
 ·next e E B o j ht hxv =>
  split at h
  ·next s E' E1 xss ix ho =>
   obtain ⟨zero, hty, _⟩ := ty_of hT ht
   obtain ⟨q, hq, h⟩ := nm_s h
   refine ⟨_, h, es_oe fun env w S vs hM hl => ?_⟩
   have hm : (mMt s.rep E' E1 (vs o) xss ix).p S w := geto_M hM ho
   obtain ⟨b, m, cap0, h1, h2, h3⟩ := opv_hold hxv (hx hl)
   obtain ⟨a1, a2, a3⟩ := mt_s hm
   have hn : m = ix.length := by
    obtain ⟨cs, h5, h6⟩ := a2
    rcases h5.2 with ⟨hv, h7⟩ | ⟨g', cap', cur, hv, _⟩
    ·rw [h1] at hv; cases hv
    ·rw [h1] at hv; cases hv; rfl
   obtain ⟨b', cap', hv, hb⟩ := own_open a2 (by omega)
   rw [h1] at hv; cases hv
   have hsub := Sub.rowT0 (eHd (hvW (vs o))) cap0 ix j (ix.getD j 0) (getD_some 0 h2)
   exact ⟨_, _, _, _, [], [mB (rowT (eHd (hvW (vs o))) cap0) E' b ix], oe_loadM 0 rfl h3 hsub hty, ⟨hb, trivial⟩, trivial, fun u w' _ hf => one_of (by
    have := fV_hd hf.1
    rw [<- hq] at this
    exact this)⟩
  ·cases h
 ·next ti o e p j f hti hxv =>
  split at h
  ·next s E' E1 xss ix ho =>
   obtain ⟨hse, h1⟩ := cast_s h
   cases hse
   obtain ⟨q, hq, h2⟩ := nm_s h1
   obtain ⟨hse, h⟩ := cast_s h2
   obtain ⟨zero, hty, _⟩ := ty_of hT hti
   obtain ⟨off, ff, gt, st⟩ := f
   simp only at hse; subst hse
   refine ⟨_, h, es_oe fun env w S vs hM hl => ?_⟩
   have hm : (mMt e.rep E' E1 (vs o) xss ix).p S w := geto_M hM ho
   obtain ⟨h0, b, m, cap, h1, h2, h3⟩ := opv_hold hxv (hx hl)
   have hr := (mt_row hm h1).1
   have hn : m = (rowAt (α := e.D) xss p).length := by
    obtain ⟨cs, h5, h6⟩ := hr
    rcases h5.2 with ⟨hv, h7⟩ | ⟨g', cap', cur, hv, _⟩
    ·cases hv
    ·cases hv; rfl
   obtain ⟨b', cap', hv, hb⟩ := own_open hr (by omega)
   cases hv
   have hsub := (Sub.rowT0 e.rep cap (rowAt (α := e.D) xss p) j ((rowAt (α := e.D) xss p).getD j e.z) (getD_some e.z (by omega))).comp (h0 ((rowAt (α := e.D) xss p).getD j e.z))
   subst hq
   exact ⟨_, _, _, _, [], [mB (rowT e.rep cap) E1 b (rowAt (α := e.D) xss p)], oe_loadM 0 rfl h3 hsub hty, ⟨hb, trivial⟩, trivial, fun u w' _ hf => one_of hf.1⟩
  ·cases h
 ·cases h
theorem co_slice (hT : TTok P cf.tt) (hL : ELok P cf.tt) {lo hi : Option Operand} {k : List (Nat × Dv) -> Option R} (h : coSlice cf cx σ t x lo hi k = some r) : ∃ l, k l = some r /\ ES P ⟨d, .slice t x lo hi none, ty, pos, aft, g⟩ cx σ F l := by
 have hx : ∀ {vs env S w}, (∀ t' ∈ tmpsOf (.slice t x lo hi none), Lk P vs env S w cx σ t') -> LkO P vs env S w cx σ x := fun hl => lk_of hl (by simp [Op.operands])
 have hlo : ∀ {vs env S w z}, lo = some z -> (∀ t' ∈ tmpsOf (.slice t x lo hi none), Lk P vs env S w cx σ t') -> LkO P vs env S w cx σ z := fun e hl => lk_of hl (by simp [Op.operands, e])
 have hhi : ∀ {vs env S w z}, hi = some z -> (∀ t' ∈ tmpsOf (.slice t x lo hi none), Lk P vs env S w cx σ t') -> LkO P vs env S w cx σ z := fun e hl => lk_of hl (by simp [Op.operands, e])
 unfold coSlice at h
 split at h
 ·next e E B o ht hxv =>
  split at h
  ·next s E' E1 xss ix ho =>
   obtain ⟨bytes, zero, het⟩ := ty_el hT hL ht
   have key : ∀ (l m : Nat), l <= m -> m <= ix.length -> k [(0, .mv o l (m - l))] = some r -> (∀ vs env S w, (∀ t' ∈ tmpsOf (.slice t x lo hi none), Lk P vs env S w cx σ t') -> ((lo.map (ev env)) = some (.int .i64 (l : Int)) \/ (lo = none /\ l = 0)) /\ ((hi.map (ev env)) = some (.int .i64 (m : Int)) \/ (hi = none /\ m = ix.length))) ->
     ∃ l, k l = some r /\ ES P ⟨d, .slice t x lo hi none, ty, pos, aft, g⟩ cx σ F l := by
    intro l m h1 h2 h5 h4
    refine ⟨_, h5, fun env w S vs hS hM hl => ?_⟩
    obtain ⟨h6, h7⟩ := h4 vs env S w hl
    have hxe : ev env x = outW (vs o) := opv_hold hxv (hx hl)
    have hm : (mMt s.rep E' E1 (vs o) xss ix).p S w := geto_M hM ho
    rcases mo_shape (mt_s hm).2.1 with ⟨hv, hnil⟩ | ⟨b, cap, hv, hc1, hc2⟩
    ·rw [hnil] at h2 h7
     obtain rfl : m = 0 := Nat.le_zero.1 h2
     obtain rfl : l = 0 := Nat.le_zero.1 h1
     have hr := run_sliceNil (P := P) (w := w) (tk_sl hT ht) het (h6.imp id fun q => by rw [q.1]; rfl) (h7.imp id fun q => by rw [q.1]; rfl)
     refine OpR.of_value (v := .slice none 0 0) (w' := w) (by simp [execOp, hxe.trans hv, hr]) ⟨Keeps.refl _ _, one_of (.inr ⟨hv, rfl, rfl, rfl⟩)⟩
    ·have hr := run_sliceG (P := P) (b := b) (o := 0) (n := ix.length) (cap := cap) (w := w) (l := l) (h := m) (tk_sl hT ht) het (h6.imp id fun q => ⟨by rw [q.1]; rfl, q.2⟩) (h7.imp id fun q => ⟨by rw [q.1]; rfl, q.2⟩) h1 (Nat.le_trans h2 hc1)
     rw [<- hv, <- hxe] at hr
     refine OpR.of_value (v := .slice (if cap = l then some ⟨b, 0, none⟩ else some ((⟨b, 0, none⟩ : Addr).add (l * 1))) (m - l) (cap - l)) (w' := w) (by simp [execOp, hr, Ty.rep, eS]) ⟨Keeps.refl _ _, one_of ?_⟩
     exact .inl ⟨b, ix.length, cap, hv, by omega, hc1, by omega, by rw [addr_add]⟩
   rcases bnd_s h with ⟨e1, h1⟩ | ⟨zl, l, e1, h1, hl1⟩
   ·rcases bnd_s h1 with ⟨e2, h2⟩ | ⟨zh, m, e2, h2, hh1⟩
    ·obtain ⟨a, c, q1, q2, q3, q4, q5⟩ := cutV_s h2
     exact key a c q1 q2 q3 fun vs env S w hl => ⟨.inr ⟨e1, (q4.resolve_left (by simp)).2⟩, .inr ⟨e2, (q5.resolve_left (by simp)).2⟩⟩
    ·obtain ⟨a, c, q1, q2, q3, q4, q5⟩ := cutV_s h2
     rcases q5 with q5 | ⟨q5, _⟩
     ·cases q5
      exact key a m q1 q2 q3 fun vs env S w hl => ⟨.inr ⟨e1, (q4.resolve_left (by simp)).2⟩, .inl (by rw [e2]; exact congrArg some (hh1 P vs env S w (hhi e2 hl)))⟩
     ·cases q5
   ·rcases bnd_s h1 with ⟨e2, h2⟩ | ⟨zh, m, e2, h2, hh1⟩
    ·obtain ⟨a, c, q1, q2, q3, q4, q5⟩ := cutV_s h2
     rcases q4 with q4 | ⟨q4, _⟩
     ·cases q4
      exact key l c q1 q2 q3 fun vs env S w hl => ⟨.inl (by rw [e1]; exact congrArg some (hl1 P vs env S w (hlo e1 hl))), .inr ⟨e2, (q5.resolve_left (by simp)).2⟩⟩
     ·cases q4
    ·obtain ⟨a, c, q1, q2, q3, q4, q5⟩ := cutV_s h2
     rcases q4 with q4 | ⟨q4, _⟩
     ·rcases q5 with q5 | ⟨q5, _⟩
      ·cases q4; cases q5
       exact key l m q1 q2 q3 fun vs env S w hl => ⟨.inl (by rw [e1]; exact congrArg some (hl1 P vs env S w (hlo e1 hl))), .inl (by rw [e2]; exact congrArg some (hh1 P vs env S w (hhi e2 hl)))⟩
      ·cases q5
     ·cases q4
  ·cases h
 ·cases h
theorem co_len (hT : TTok P cf.tt) {ags : Array Operand} {ts : Array TypeId} {k : List (Nat × Dv) -> Option R} (h : coLen cf cx σ ags.toList ts.toList k = some r) :
  ∃ l, k l = some r /\ ES P ⟨d, .call ⟨.builtin .len, ags, ts⟩, ty, pos, aft, g⟩ cx σ F l := by
 unfold coLen at h
 split at h
 ·next _ _ x t hags hts =>
  obtain rfl : ags = #[x] := by cases ags; simp_all
  obtain rfl : ts = #[t] := by cases ts; simp_all
  have hx : ∀ {vs env S w}, (∀ t' ∈ tmpsOf (.call ⟨.builtin .len, #[x], #[t]⟩), Lk P vs env S w cx σ t') -> LkO P vs env S w cx σ x := fun hl => lk_of hl (by simp [Op.operands, Call.operands])
  split at h
  ·next e E B o ht hxv =>
   split at h
   ·next s E' E1 xss ix ho =>
    refine ⟨_, h, es_oe fun env w S vs hM hl => ?_⟩
    have hm : (mMt s.rep E' E1 (vs o) xss ix).p S w := geto_M hM ho
    exact ⟨_, _, _, _, [], [mO (eHd (hvW (vs o))) E' (outW (vs o)) ix], oe_lenM 0 rfl (tk_sl hT ht) (opv_hold hxv (hx hl)), ⟨(mt_s hm).2.1, trivial⟩, trivial, fun u w' hk hf => one_of (i64_fV (len_r hk))⟩
   ·cases h
  ·next e E B o lo n ht hxv =>
   split at h
   ·next s E' E1 xss ix ho =>
    refine ⟨_, h, es_val fun env w S vs hl => ?_⟩
    rcases (opv_hold hxv (hx hl) : MvV _ _ _ _).old with ⟨b, m, cap, c, q1, q2, q3, q4, q5⟩ | ⟨q1, ao, c, q2, q3⟩
    ·exact ⟨_, r_len (tk_sl hT ht) q5 w, one_of (i64_fV (len_r (by omega)))⟩
    ·subst q1
     exact ⟨_, r_len (tk_sl hT ht) q3 w, one_of (i64_fV (by decide))⟩
   ·cases h
  ·next e E B o p ht hxv =>
   split at h
   ·next s E' E1 xss ix ho =>
    refine ⟨_, h, es_oe fun env w S vs hM hl => ?_⟩
    have hm : (mMt s.rep E' E1 (vs o) xss ix).p S w := geto_M hM ho
    have hxe : (hvW (vs o))[p]? = some (ev env x) := opv_hold hxv (hx hl)
    exact ⟨_, _, _, _, [], [mO s.rep E1 (ev env x) (rowAt xss p)], oe_lenM 0 rfl (tk_sl hT ht) rfl, ⟨(mt_row hm hxe).1, trivial⟩, trivial, fun u w' hk hf => one_of (i64_fV (len_r hk))⟩
   ·cases h
  ·cases h
 ·cases h
def Tru : Nat -> Prop := fun _ => True
theorem to_tru (f : FF) (h : f.p S w) : f.p Tru w := f.sub h fun _ _ _ => trivial
theorem argsL_s (hC : ∀ s ∈ cf.cs, SigOK P s) : ∀ {dom : List AM} {xs : List Operand} {cs : List PD} {k : AsD dom -> Option R}, argsL cf cx σ dom xs cs k = some r ->
  ∃ z, k z = some r /\ xs.length + cs.length = dom.length /\ ∀ vs env S w, AllM S (MS vs σ.ob ++ (MS vs cx.ob ++ F)) w -> (∀ x ∈ xs, LkO P vs env S w cx σ x) -> ∀ cvs : List Value, cvs.length = cs.length -> All S (capF cs cvs) w -> All Tru (argFs P dom z (xs.map (ev env) ++ cvs)) w
 | [], [], [], k, h => ⟨(), h, rfl, fun _ _ _ _ _ _ _ _ _ => trivial⟩
 | .q t :: dom, [], c :: cs, k, h => by
  simp only [argsL] at h
  obtain ⟨e, h⟩ := cast_s h
  subst e
  obtain ⟨z, h1, h2, h3⟩ := argsL_s hC h
  refine ⟨_, h1, by simp at h2 ⊢; omega, fun vs env S w hM hl cvs hcl hca => ?_⟩
  cases cvs with
  | nil => cases hcl
  | cons v cvs => exact ⟨to_tru _ hca.1, h3 vs env S w hM hl cvs (by simpa using hcl) hca.2⟩
 | .d t :: dom, x :: xs, cs, k, h => by
  simp only [argsL] at h
  split at h
  ·next o lo n hxv =>
   split at h
   ·next s E E1 xss ix ho =>
    obtain ⟨e, h⟩ := cast_s h
    subst e
    obtain ⟨z, h1, h2, h3⟩ := argsL_s hC h
    refine ⟨_, h1, by simp at h2 ⊢; omega, fun vs env S w hM hl cvs hcl hca => ⟨?_, h3 vs env S w hM (fun z hz => hl z (List.mem_cons_of_mem _ hz)) cvs hcl hca⟩⟩
    have hm : (mMt s.rep E E1 (vs o) xss ix).p S w := geto_M hM ho
    obtain ⟨a1, a2, a3⟩ := mt_s hm
    have h4 : (mO (eS s.rep) E (outW (vs o)) (matD xss ix)).p Tru w := by
     obtain ⟨cs', q1, q2⟩ := a2
     refine ⟨cs', by unfold matD; rw [List.length_map]; exact q1, ?_⟩
     exact elems_mat a1 (fun _ _ => trivial) (fun _ _ _ _ => trivial) a3 q2
    show (fV (eS (eS s.rep)) (List.take n (List.drop lo (matD xss ix))) (ev env x)).p Tru w
    rcases (opv_hold hxv (hl x (List.mem_cons_self ..)) : MvV _ _ _ _).old with ⟨b, m, cap, c, q1, q2, q3, q4, q5⟩ | ⟨q1, ao, c, q2, q3⟩
    ·have := mo_view h4 q1 q2 q3 q4
     rw [q5]
     obtain ⟨ao, c', p1, p2, p3, p4⟩ := this
     refine fV_slice.2 ⟨ao, c', p1, p2, p3, p4.imp id ?_⟩
     rintro ⟨b', o', cs', r1, r2, r3⟩
     exact ⟨b', o', cs', r1, trivial, r2, r3⟩
    ·subst q1
     rw [q3]
     exact fV_slice.2 ⟨ao, c, by simp, by simp, by unfold maxLen; omega, .inl (by simp)⟩
   ·cases h
  ·obtain ⟨y, h, hy⟩ := asO_s h
   obtain ⟨z, h1, h2, h3⟩ := argsL_s hC h
   exact ⟨_, h1, by simp at h2 ⊢; omega, fun vs env S w hM hl cvs hcl hca => ⟨to_tru _ (hy P vs env S w (hl x (List.mem_cons_self ..))), h3 vs env S w hM (fun z hz => hl z (List.mem_cons_of_mem _ hz)) cvs hcl hca⟩⟩
 | .fn dom' cod :: dom, x :: xs, cs, k, h => by
  simp only [argsL] at h
  obtain ⟨f, h, hf⟩ := asF_s hC h
  obtain ⟨z, h1, h2, h3⟩ := argsL_s hC h
  refine ⟨_, h1, by simp at h2 ⊢; omega, fun vs env S w hM hl cvs hcl hca => ⟨?_, h3 vs env S w hM (fun z hz => hl z (List.mem_cons_of_mem _ hz)) cvs hcl hca⟩⟩
  cases hv : opv cx σ x with
  | none => rename_i h0; rw [hv] at h0; simp [asF] at h0
  | some v => exact to_tru _ (hf vs S w v _ hv (opv_hold hv (hl x (List.mem_cons_self ..))))
 | [], _ :: _, _, _, h => by simp [argsL] at h
 | [], [], _ :: _, _, h => by simp [argsL] at h
 | .d _ :: _, [], _, _, h => by simp [argsL] at h
 | .own _ _ :: _, _, _, _, h => by simp [argsL] at h
 | .q _ :: _, _ :: _, _, _, h => by simp [argsL] at h
 | .fn _ _ :: _, [], _, _, h => by simp [argsL] at h
 | .q _ :: _, [], [], _, h => by simp [argsL] at h
theorem flat_S : ∀ {rs : List RM} {x : CsD (rs.map RM.ty)} {us : List Value}, flatT rs = true -> All Tru (csF (rs.map RM.ty) x us) w -> All S (csF (rs.map RM.ty) x us) w
 | [], _, _, _, _ => trivial
 | [.d .i], x, us, _, h => ⟨h.1, trivial⟩
 | [.d .u], x, us, _, h => ⟨h.1, trivial⟩
 | [.d .b], x, us, _, h => ⟨h.1, trivial⟩
 | .d .i :: n :: r, x, us, hf, h => ⟨h.1, flat_S (rs := n :: r) (x := x.2) hf h.2⟩
 | .d .u :: n :: r, x, us, hf, h => ⟨h.1, flat_S (rs := n :: r) (x := x.2) hf h.2⟩
 | .d .b :: n :: r, x, us, hf, h => ⟨h.1, flat_S (rs := n :: r) (x := x.2) hf h.2⟩
theorem co_call (hC : ∀ s ∈ cf.cs, SigOK P s) (hX : XOK P cf) {f : Operand} {ags : Array Operand} {ts : Array TypeId} {k : List (Nat × Dv) -> Option R} (h : coCall cf cx σ f ags.toList k = some r) :
  ∃ l, k l = some r /\ ES P ⟨d, .call ⟨.value f, ags, ts⟩, ty, pos, aft, g⟩ cx σ F l := by
 have hf : ∀ {vs env S w}, (∀ t' ∈ tmpsOf (.call ⟨.value f, ags, ts⟩), Lk P vs env S w cx σ t') -> LkO P vs env S w cx σ f := fun hl => lk_of hl (by simp [Op.operands, Call.operands])
 have ha : ∀ {vs env S w}, (∀ t' ∈ tmpsOf (.call ⟨.value f, ags, ts⟩), Lk P vs env S w cx σ t') -> ∀ x ∈ ags.toList, LkO P vs env S w cx σ x := fun hl x hx => lk_of hl (by
  simp only [Op.operands, Call.operands, Array.toList_append, List.mem_append]; exact .inr hx)
 unfold coCall at h
 split at h
 ·next f0 cs hfv =>
  split at h
  ·next s hs =>
   obtain ⟨h1, h2⟩ := fndC_s hs
   obtain ⟨hb, hok⟩ := hX.cl s h1
   obtain ⟨z, h, hlen, hz⟩ := argsT_s h
   refine ⟨_, h, es_oe fun env w S vs hM hl => ?_⟩
   obtain ⟨cvs, hv, hcl, hca⟩ := opv_hold hfv (hf hl)
   obtain rfl : cvs = [] := List.length_eq_zero_iff.1 hcl
   have hfn := hok z (ags.toList.map (ev env)) (by simpa using hlen)
   rw [h2] at hfn hb
   rw [<- List.append_nil (ags.toList.map (ev env))] at hfn
   exact ⟨_, _, _, _, tsF s.dom z (ags.toList.map (ev env) ++ []), [], oe_callv (asv := ags.toList) hb hv hfn rfl (fun S w h => h), trivial, by rw [List.append_nil]; exact hz P vs env S w (ha hl), fun v w' _ hfs => one_of hfs.1⟩
  ·split at h
   ·next s hs =>
    obtain ⟨h1, h2, h3, h4⟩ := sigOf_s hs
    have hok := hC s h1
    obtain ⟨hfl, h⟩ := grd_s h
    obtain ⟨z, h, hlen, hz⟩ := argsL_s (F := F) hC h
    obtain ⟨q, hq, h⟩ := bd_s h
    refine ⟨_, h, fun env w S vs hS hM hl => ?_⟩
    obtain ⟨cvs, hv, hcl, hca⟩ := opv_hold hfv (hf hl)
    have hfn := sig_frozen hok h3 h4 hq (us := ags.toList.map (ev env) ++ cvs) (by simp at hlen ⊢; omega)
    rw [h2] at hfn
    have hall := hz vs env S w hM (ha hl) cvs hcl hca
    refine (oe_callv (asv := ags.toList) (ms := []) (Γ := argFs P s.dom z (ags.toList.map (ev env) ++ cvs)) (h2 ▸ hok.1) hv hfn rfl (fun S w h => h) w Tru (fun _ _ => trivial) trivial hall).mono ?_
    rintro v w' ⟨us, rfl, hus, hx, hfs⟩
    refine ⟨hx, ?_⟩
    unfold resD
    rw [resX_T, oneRes_T]
    exact res_hold (flat_S hfl hfs) (by simpa using hus)
   ·cases h
 ·cases h
theorem e_co (hT : TTok P cf.tt) (hL : ELok P cf.tt) (hC : ∀ s ∈ cf.cs, SigOK P s) (hX : XOK P cf) {op : Op} {k : List (Nat × Dv) -> Option R} (h : eCo cf cx σ op k = some r) : ∃ l, k l = some r /\ ES P ⟨d, op, ty, pos, aft, g⟩ cx σ F l := by
 unfold eCo at h
 split at h
 ·exact co_load hT h
 ·exact co_index hT hL h
 ·exact co_slice hT hL h
 ·exact co_len hT h
 ·exact co_call hC hX h
 ·cases h
theorem e_all (hT : TTok P cf.tt) (hL : ELok P cf.tt) (hC : ∀ s ∈ cf.cs, SigOK P s) (hX : XOK P cf) {op : Op} {k : List (Nat × Dv) -> Option R} (h : eOp cf cx σ op k = some r) : ∃ l, k l = some r /\ ES P ⟨d, op, ty, pos, aft, g⟩ cx σ F l := by
 unfold eOp at h
 cases hc : coOp cf cx σ op <;> rw [hc] at h
 ·exact e_all0 hT hL hC hX.ex h
 ·exact e_co hT hL hC hX h
end
end Go.Proofs.YtmggkmchbdanfaaGreat
end

section
set_option linter.unusedVariables false
set_option linter.unusedSimpArgs false
namespace Go.Proofs.YtmggkmchbdanfaaGreat
section
variable {P : Program} {cf : Cf} {fr : Fr} {cx σ : Sg} {vs vs' : Nat -> Value} {env : Env} {w : World} {R : Type} {r : R}
 {d : Option Tmp} {ty t yt : TypeId} {pos : String} {aft : Array Edge} {g : Option (Nat × Bool)} {x y : Operand}
abbrev GS (P : Program) (vs : Nat -> Value) (env : Env) (fr : Fr) (cx σ : Sg) : List FF := RS P vs env σ.rg ++ (RS P vs env cx.rg ++ fr.G)
abbrev OS (vs : Nat -> Value) (fr : Fr) (cx : Sg) (ob : List (Nat × Od)) : List MF := MS vs ob ++ (MS vs cx.ob ++ fr.F)
theorem gs_lk {S : Nat -> Prop} (h : All S (GS P vs env fr cx σ) w) (t : Tmp) : Lk P vs env S w cx σ t := by
 intro i dv hd
 rcases get_mem hd with hm | hm
 ·exact rs_get (All.left h) hm
 ·exact rs_get (All.left (All.right h)) hm
theorem gs_lko {S : Nat -> Prop} (h : All S (GS P vs env fr cx σ) w) (x : Operand) : LkO P vs env S w cx σ x := fun t _ => gs_lk h t
def RelV (P : Program) (fr : Fr) (cx σ : Sg) (vs : Nat -> Value) (env : Env) (w : World) : Prop := Bd cx σ /\ St fr.we fr.Se (OS vs fr cx σ.ob) (GS P vs env fr cx σ) w
def RelX (P : Program) (fr : Fr) (cx : Sg) (n : Nat) (vs : Nat -> Value) (σ : Sg) (env : Env) (w : World) : Prop := ∃ vs', (∀ o, o < n -> vs' o = vs o) /\ RelV P fr cx σ vs' env w
theorem RelX.rel {n : Nat} (h : RelX P fr cx n vs σ env w) : Rel P fr cx σ env w := by
 obtain ⟨vs', _, h1, h2⟩ := h
 exact ⟨h1, vs', h2⟩
theorem relV_mk {v : Value} {σ' : Sg} {l : List (Nat × Dv)} {Γl : List FF} (hB : Bd cx σ) (hd : okPut cx d = true) (hrg : σ'.rg = putR σ.rg d l) (hn : σ.nx <= σ'.nx) (hvs : ∀ o, o < σ.nx -> vs' o = vs o)
  (hl : ∀ e ∈ l, ∀ o, refO e.2 = some o -> o < σ'.nx) (hob : ∀ e ∈ σ'.ob, e.1 < σ'.nx) (hf : ∀ S w, All S Γl w -> ∀ e ∈ l, (holdC P vs' e.2 v e.1).p S w)
  (hst : St fr.we fr.Se (OS vs' fr cx σ'.ob) (Γl ++ GS P vs env fr cx σ) w) : RelV P fr cx σ' vs' (put env d v) w := by
 refine ⟨⟨hob, fun e he => Nat.lt_of_lt_of_le (hB.o2 e he) hn, ?_, fun e he o ho => Nat.lt_of_lt_of_le (hB.r2 e he o ho) hn⟩, hst.weak fun S w h => ?_⟩
 ·intro e he o ho
  rw [hrg] at he
  unfold putR at he
  cases d with
  | none => exact Nat.lt_of_lt_of_le (hB.r1 e he o ho) hn
  | some t =>
   rcases List.mem_append.1 he with he | he
   ·obtain ⟨e', he', rfl⟩ := List.mem_map.1 he
    exact hl e' he' o ho
   ·exact Nat.lt_of_lt_of_le (hB.r1 e (List.mem_filter.1 he).1 o ho) hn
 ·have hΓ := All.right h
  have h1 : All S (RS P vs' env σ.rg) w := by rw [RS_congr (fun e he o ho => hvs o (hB.r1 e he o ho)) (fun _ _ => rfl)]; exact All.left hΓ
  have h2 : All S (RS P vs' env cx.rg) w := by rw [RS_congr (fun e he o ho => hvs o (hB.r2 e he o ho)) (fun _ _ => rfl)]; exact All.left (All.right hΓ)
  have h3 := All.right (All.right hΓ)
  cases d with
  | none =>
   unfold GS
   rw [show σ'.rg = σ.rg from hrg]
   exact All.append h1 (All.append h2 h3)
  | some t =>
   have hcx : RS P vs' (put env (some t) v) cx.rg = RS P vs' env cx.rg := RS_congr (fun _ _ _ _ => rfl) fun e he => put_ne fun ht => by
    simp only [okPut, notIn, List.all_eq_true] at hd
    have := hd e he
    simp only [Option.some.injEq] at ht
    rw [ht] at this
    simp at this
   unfold GS
   rw [hrg, hcx]
   refine All.append (all_mem.2 fun f hf' => ?_) (All.append h2 h3)
   obtain ⟨e, he, rfl⟩ := List.mem_map.1 hf'
   rcases List.mem_append.1 he with he | he
   ·obtain ⟨e', he', rfl⟩ := List.mem_map.1 he
    simp only [put_eq]
    exact hf S w (All.left h) e' he'
   ·obtain ⟨he1, he2⟩ := List.mem_filter.1 he
    have hne : some t ≠ some e.1 := fun hc => by
     simp only [Option.some.injEq] at hc
     rw [hc] at he2; simp at he2
    rw [put_ne hne]
    exact rs_get h1 he1
theorem rel_mk {v : Value} {σ' : Sg} {l : List (Nat × Dv)} {Γl : List FF} (hB : Bd cx σ) (hd : okPut cx d = true) (hrg : σ'.rg = putR σ.rg d l) (hn : σ.nx <= σ'.nx) (hvs : ∀ o, o < σ.nx -> vs' o = vs o)
  (hl : ∀ e ∈ l, ∀ o, refO e.2 = some o -> o < σ'.nx) (hob : ∀ e ∈ σ'.ob, e.1 < σ'.nx) (hf : ∀ S w, All S Γl w -> ∀ e ∈ l, (holdC P vs' e.2 v e.1).p S w)
  (hst : St fr.we fr.Se (OS vs' fr cx σ'.ob) (Γl ++ GS P vs env fr cx σ) w) : RelX P fr cx σ.nx vs σ' (put env d v) w := ⟨vs', hvs, relV_mk hB hd hrg hn hvs hl hob hf hst⟩
def resL (P : Program) (vs : Nat -> Value) (v : Value) (l : List (Nat × Dv)) : List FF := l.map fun e => holdC P vs e.2 v e.1
theorem okL_s {n : Nat} {l : List (Nat × Dv)} (h : okL n l = true) : ∀ e ∈ l, ∀ o, refO e.2 = some o -> o < n := by
 intro e he o ho
 unfold okL at h
 rw [List.all_eq_true] at h
 have := h e he
 rw [ho] at this
 have := Nat.le_of_ble_eq_true this
 omega
theorem ES.mono {o : Oper} {l : List (Nat × Dv)} {F : List MF} (h : ES P o cx σ [] l) : ES P o cx σ F l := by
 intro env w S vs h1 h2 h3
 refine h env w S vs h1 (allM_mem.2 fun m hm => allM_mem.1 h2 m ?_) h3
 rcases List.mem_append.1 hm with hm | hm
 ·exact List.mem_append.2 (.inl hm)
 ·rw [List.append_nil] at hm
  exact List.mem_append.2 (.inr (List.mem_append.2 (.inl hm)))
theorem rel_E {o : Oper} {l : List (Nat × Dv)} (h : ES P o cx σ fr.F l) (hd : okPut cx o.dst = true) (hl : okL σ.nx l = true) (hR : RelV P fr cx σ vs env w) : OpR P o env w (fun v w' => RelX P fr cx σ.nx vs (σ.put o.dst l) (put env o.dst v) w') := by
 obtain ⟨hB, h1, h2, h3, S, h4, h5, h6, h7, h8⟩ := hR
 refine (h env w S vs h5 h7 fun t _ => gs_lk h8 t).mono ?_
 rintro v w' ⟨hx, hf⟩
 refine rel_mk (σ' := σ.put o.dst l) (Γl := resL P vs v l) hB hd rfl (Nat.le_refl _) (fun _ _ => rfl) (okL_s hl) hB.o1 (fun S w ha e he => all_mem.1 ha _ (List.mem_map.2 ⟨e, he, rfl⟩)) ?_
 refine ⟨h1.trans hx, h2, h3, S, h4, fun k hk => h5 k (Nat.le_trans hx.size hk), h6, AllM.keep hx.to (fun m hm i hi => hx.block i (AllM.lt h7 m hm i hi) trivial) h7, All.append (all_mem.2 fun f hf' => ?_) (All.keep hx.to h8)⟩
 obtain ⟨e, he, rfl⟩ := List.mem_map.1 hf'
 exact hf e he
def MOK (P : Program) (cx : Sg) (o : Oper) (σ : Sg) (k : Sg -> Option R) (r : R) : Prop := ∃ σ', k σ' = some r /\ σ.nx <= σ'.nx /\ ∀ (fr : Fr) (vs : Nat -> Value) (env : Env) (w : World), RelV P fr cx σ vs env w -> OpR P o env w (fun v w' => RelX P fr cx σ.nx vs σ' (put env o.dst v) w')
theorem m_E (hT : TTok P cf.tt) (hL : ELok P cf.tt) (hC : ∀ s ∈ cf.cs, SigOK P s) (hX : XOK P cf) {op : Op} {k : Sg -> Option R} (hd : okPut cx d = true) (h : mE cf cx σ d op k = some r) : MOK P cx ⟨d, op, ty, pos, aft, g⟩ σ k r := by
 unfold mE at h
 obtain ⟨l, h, hes⟩ := e_all (P := P) (d := d) (ty := ty) (pos := pos) (aft := aft) (g := g) (F := []) hT hL hC hX h
 obtain ⟨hl, h⟩ := grd_s h
 exact ⟨_, h, Nat.le_refl _, fun fr vs env w hR => rel_E hes.mono hd hl hR⟩
def upv (vs : Nat -> Value) (n : Nat) (v : Value) : Nat -> Value := fun o => bif Nat.beq o n then v else vs o
theorem upv_new {n : Nat} {v : Value} : upv vs n v n = v := by simp [upv]
theorem upv_old {n o : Nat} {v : Value} (h : o < n) : upv vs n v o = vs o := by unfold upv; rw [beq_no (by omega)]; rfl
theorem ms_upv {n : Nat} {v : Value} {ob : List (Nat × Od)} (h : ∀ e ∈ ob, e.1 < n) : MS (upv vs n v) ob = MS vs ob := MS_congr fun e he => upv_old (h e he)
theorem os_upv {v : Value} {ob : List (Nat × Od)} (hB : Bd cx σ) (h : ∀ e ∈ ob, e.1 < σ.nx) : OS (upv vs σ.nx v) fr cx ob = OS vs fr cx ob := by
 show MS _ ob ++ (MS _ cx.ob ++ _) = _
 rw [ms_upv h, ms_upv hB.o2]
theorem rel_new {v : Value} {mk : Nat -> Dv} {X : Od} {ob : List (Nat × Od)} (hB : Bd cx σ) (hd : okPut cx d = true) (hob : ∀ e ∈ ob, e.1 < σ.nx) (href : ∀ o, refO (mk o) = some o) (hmk : ∀ S w, (hold P (upv vs σ.nx v) (mk σ.nx) v).p S w)
  (hst : St fr.we fr.Se (moF (upv vs σ.nx v) (σ.nx, X) :: OS vs fr cx ob) (GS P vs env fr cx σ) w) : RelX P fr cx σ.nx vs ⟨σ.nx + 1, putR σ.rg d [(0, mk σ.nx)], (σ.nx, X) :: ob⟩ (put env d v) w := by
 refine rel_mk (σ' := ⟨σ.nx + 1, putR σ.rg d [(0, mk σ.nx)], (σ.nx, X) :: ob⟩) (vs := vs) (vs' := upv vs σ.nx v) (Γl := []) hB hd rfl (Nat.le_succ _) (fun o ho => upv_old ho) ?_ ?_ ?_ ?_
 ·intro e he o ho
  obtain rfl := List.mem_singleton.1 he
  rw [href] at ho
  cases ho; exact Nat.lt_succ_self _
 ·intro e he
  rcases List.mem_cons.1 he with rfl | he
  ·exact Nat.lt_succ_self _
  ·exact Nat.lt_succ_of_lt (hob e he)
 ·intro S w _ e he
  obtain rfl := List.mem_singleton.1 he
  exact hmk S w
 ·show St _ _ (moF (upv vs σ.nx v) (σ.nx, X) :: OS (upv vs σ.nx v) fr cx ob) _ _
  rw [os_upv hB hob]
  exact hst
theorem hold_ow {v : Value} (S : Nat -> Prop) (w : World) : (hold P (upv vs σ.nx v) (.ow σ.nx) v).p S w := (upv_new (vs := vs)).symm
theorem hold_vs' {t : Ty} {b : Nat} (S : Nat -> Prop) (w : World) : (hold P (upv vs σ.nx (.pointer (some ⟨b, 0, none⟩))) (.vs σ.nx t) (.pointer (some ⟨b, 0, none⟩))).p S w := ⟨upv_new.symm, b, upv_new⟩
theorem mo_own {t : Ty} {E : TypeId} {xs : List t.D} {n : Nat} {v : Value} : moF (upv vs n v) (n, .own t E xs) = mO t.rep E v xs := by simp only [moF, upv_new]
theorem mo_var {t : Ty} {E : TypeId} {z : t.D} {n : Nat} {v : Value} : moF (upv vs n v) (n, .var t E z) = mP t.rep.c E v z := by simp only [moF, upv_new]
theorem m_alloc (hT : TTok P cf.tt) {E : TypeId} {k : Sg -> Option R} (hd : okPut cx d = true) (h : mAlloc cf σ d E k = some r) : MOK P cx ⟨d, .alloc E, ty, pos, aft, g⟩ σ k r := by
 unfold mAlloc at h
 split at h
 ·next ti hti =>
  obtain ⟨zero, hz1, hz2, hz3⟩ := ty_of hT hti
  refine ⟨_, h, Nat.le_succ _, fun fr vs env w hR => ?_⟩
  obtain ⟨hB, hst⟩ := hR
  refine (og_allocM (e := ti.ty.rep.c) (z := ti.ty.z) hz1 hz3 w hst).mono ?_
  rintro v w' ⟨b, rfl, _, hs⟩
  refine rel_new (vs := vs) (mk := fun o => .vs o ti.ty) hB hd hB.o1 (fun _ => rfl) (fun S w => hold_vs' S w) ?_
  rw [mo_var]
  exact hs.toP 0 rfl
 ·cases h
theorem m_box {E : TypeId} {k : Sg -> Option R} (hd : okPut cx d = true) (h : mBox cf cx σ d E x k = some r) : MOK P cx ⟨d, .box E x, ty, pos, aft, g⟩ σ k r := by
 unfold mBox at h
 split at h
 ·next ti hti =>
  obtain ⟨y, h, hy⟩ := asO_s h
  refine ⟨_, h, Nat.le_succ _, fun fr vs env w hR => ?_⟩
  obtain ⟨hB, hst⟩ := hR
  refine (og_boxM (e := ti.ty.rep) (z := y) rfl (fun S w ha => hy P vs env S w (gs_lko ha x)) w hst).mono ?_
  rintro v w' ⟨b, rfl, _, hs⟩
  refine rel_new (vs := vs) (mk := fun o => .vs o ti.ty) hB hd hB.o1 (fun _ => rfl) (fun S w => hold_vs' S w) ?_
  rw [mo_var]
  exact hs.toP 0 rfl
 ·cases h
theorem same_ev (h : sameX x y = true) : ev env x = ev env y := by
 unfold sameX at h
 split at h
 ·rw [beq_t h]
 ·simp only [eqI, decide_eq_true_eq] at h
  rw [h]
 ·cases h
theorem m_make (hT : TTok P cf.tt) {k : Sg -> Option R} (hd : okPut cx d = true) (h : mMake cf cx σ d t x y k = some r) : MOK P cx ⟨d, .makeSlice t x y, ty, pos, aft, g⟩ σ k r := by
 unfold mMake at h
 split at h
 ·next s E B ht =>
  obtain ⟨hxy, h⟩ := grd_s h
  split at h
  ·next ti n hti hn =>
   obtain ⟨hse, h⟩ := cast_s h
   subst hse
   obtain ⟨zero, hz1, hz2, hz3⟩ := ty_of hT hti
   obtain ⟨j, hj, h⟩ := ckN_s h
   obtain ⟨hb, h⟩ := ck_s h
   obtain ⟨xs, hxs, h⟩ := nm_s h
   refine ⟨_, h, Nat.le_succ _, fun fr vs env w hR => ?_⟩
   obtain ⟨hB, hst⟩ := hR
   obtain ⟨S0, _, hΓ⟩ := hst.ex
   have hx : ev env x = .int .i64 (j : Int) := by rw [(pd_i hn (gs_lko hΓ x)).1, hj]
   have hpos := (hT _ _ hti).2.1
   refine (og_make' (e := ti.ty.rep) (z := ti.ty.z) (xs := xs) (n := j) (tk_sl hT ht) hz1 hx ((same_ev hxy).symm.trans hx) hpos hb hz3 hxs w hst).mono ?_
   rintro v w' ⟨b, rfl, _, hs⟩
   refine rel_new (vs := vs) (mk := .ow) hB hd hB.o1 (fun _ => rfl) (fun S w => hold_ow S w) ?_
   rw [mo_own]
   have hlen : xs.length = j := by rw [hxs]; exact List.length_replicate
   have := hs.closeF 0 rfl (by rw [hlen]; exact Nat.le_refl _) (mk_le hpos hb)
   rw [hlen] at this
   exact this
  ·cases h
 ·cases h
theorem m_lit (hT : TTok P cf.tt) (hL : ELok P cf.tt) {n : Nat} {ps : Array (Nat × Operand)} {k : Sg -> Option R} (hd : okPut cx d = true) (h : mLit cf cx σ d t n ps.toList k = some r) : MOK P cx ⟨d, .buildSlice t n ps, ty, pos, aft, g⟩ σ k r := by
 unfold mLit at h
 split at h
 ·next e E B ht =>
  obtain ⟨hsm, h⟩ := grd_s h
  have hsm := Nat.le_of_ble_eq_true hsm
  rw [<- e.n_rep] at hsm
  obtain ⟨ys, h, hidx, hys⟩ := parts_s h
  obtain ⟨bytes, zero, het⟩ := ty_el hT hL ht
  refine ⟨_, h, Nat.le_succ _, fun fr vs env w hR => ?_⟩
  obtain ⟨hB, hst⟩ := hR
  have hidx' : (ps.toList.map fun q : Nat × Operand => (q.1, ev env q.2)).map (·.1) = List.range' 0 (ps.toList.map fun q : Nat × Operand => (q.1, ev env q.2)).length := by rw [List.map_map, List.length_map]; exact hidx
  have hj := fun (S : Nat -> Prop) (w : World) (ha : All S (GS P vs env fr cx σ) w) => list_s hidx' (hys P vs env S w fun x _ => gs_lko ha x)
  refine (og_lit (e := e.rep) (zs := listP n e ys) (parts := ps.toList) (tk_sl hT ht) het (el_pos hT hL ht) (listP_len n e ys) hsm rfl (fun S w ha => by have := (hj S w ha).1; rwa [Nat.zero_mul] at this) (fun S w ha => (hj S w ha).2) w hst).mono ?_
  rintro v w' ⟨b, rfl, _, hs⟩
  refine rel_new (vs := vs) (mk := .ow) hB hd hB.o1 (fun _ => rfl) (fun S w => hold_ow S w) ?_
  rw [mo_own]
  exact hs
 ·cases h
end
end Go.Proofs.YtmggkmchbdanfaaGreat
end

section
set_option linter.unusedVariables false
set_option linter.unusedSimpArgs false
namespace Go.Proofs.YtmggkmchbdanfaaGreat
section
variable {P : Program} {cf : Cf} {fr : Fr} {cx σ : Sg} {vs vs' : Nat -> Value} {env : Env} {w : World} {R : Type} {r : R}
 {d : Option Tmp} {ty t yt : TypeId} {pos : String} {aft : Array Edge} {g : Option (Nat × Bool)} {x y : Operand}
theorem seto_mem {ob : List (Nat × Od)} {o : Nat} {X Y : Od} (h : fndO ob o = some X) : ∀ e ∈ seto ob o Y, ∃ e' ∈ ob, e'.1 = e.1 := by
 intro e he
 obtain ⟨i, h1, h2, _⟩ := fndO_some h
 rw [h2] at he
 rcases List.mem_or_eq_of_mem_set he with he | rfl
 ·exact ⟨e, he, rfl⟩
 ·exact ⟨_, List.mem_of_getElem? h1, rfl⟩
theorem delo_mem : ∀ {ob : List (Nat × Od)} {o : Nat}, ∀ e ∈ delo ob o, e ∈ ob
 | (o', X) :: r, o, e, he => by
  unfold delo at he
  cases hb : Nat.beq o' o <;> rw [hb] at he
  ·rcases List.mem_cons.1 he with rfl | he
   ·exact List.mem_cons_self ..
   ·exact List.mem_cons_of_mem _ (delo_mem e he)
  ·exact List.mem_cons_of_mem _ he
theorem rel_set {o : Nat} {X Y : Od} {v : Value} (hB : Bd cx σ) (ho : fndO σ.ob o = some X) (hst : St fr.we fr.Se (OS vs fr cx (seto σ.ob o Y)) (GS P vs env fr cx σ) w) : RelX P fr cx σ.nx vs ⟨σ.nx, σ.rg, seto σ.ob o Y⟩ (put env none v) w := by
 refine rel_mk (σ' := ⟨σ.nx, σ.rg, seto σ.ob o Y⟩) (d := none) (l := []) (vs := vs) (vs' := vs) (Γl := []) hB rfl rfl (Nat.le_refl _) (fun _ _ => rfl) (fun _ he => absurd he List.not_mem_nil) (fun e he => ?_) (fun S w _ e he => absurd he List.not_mem_nil) hst
 obtain ⟨e', h1, h2⟩ := seto_mem ho e he
 rw [<- h2]; exact hB.o1 e' h1
theorem set_set {α : Type _} (l : List α) (i : Nat) (a b : α) : (l.set i a).set i b = l.set i b := by simp
theorem get_set {α : Type _} {l : List α} {i : Nat} {a b : α} (h : l[i]? = some a) : (l.set i b)[i]? = some b := by
 have := (List.getElem?_eq_some_iff.1 h).1
 simp [this]
theorem erase_set {α : Type _} : ∀ (l : List α) (i : Nat) (a : α), (l.set i a).eraseIdx i = l.eraseIdx i
 | [], _, _ => by simp
 | _ :: _, 0, _ => rfl
 | b :: l, i + 1, a => by simp [erase_set l i a]
theorem own_pos {α : Type} {e : ERep α} {E : TypeId} {xs : List α} {v : Value} {S : Nat -> Prop} {b n cap : Nat} (h : (mO e E v xs).p S w) (hv : v = .slice (some ⟨b, 0, none⟩) n cap) : n = xs.length := by
 obtain ⟨cs, h5, h6⟩ := h
 rcases h5.2 with ⟨h, h7⟩ | ⟨g', cap', cur, h, _⟩
 ·rw [hv] at h; cases h
 ·rw [hv] at h; cases h; rfl
theorem m_store (hT : TTok P cf.tt) {k : Sg -> Option R} {ti : TI} (hti : tyA cf t = some ti) (h : mStore σ ti.ty (opv cx σ x) (opv cx σ y) k = some r) : MOK P cx ⟨none, .store t x y, ty, pos, aft, g⟩ σ k r := by
 obtain ⟨zero, hty, _⟩ := ty_of hT hti
 unfold mStore at h
 split at h
 ·next o _ hx =>
  split at h
  ·next s' E z ho =>
   obtain ⟨hse, h1⟩ := cast_s h
   subst hse
   obtain ⟨q, h, hq⟩ := asO_s h1
   refine ⟨_, h, Nat.le_refl _, fun fr vs env w hR => ?_⟩
   obtain ⟨hB, hst⟩ := hR
   obtain ⟨S0, _, hΓ⟩ := hst.ex
   obtain ⟨i, hi, hset, hdel⟩ := fndO_some ho
   have hm : (OS vs fr cx σ.ob)[i]? = some (mP ti.ty.rep.c E (vs o) z) := ms_idx hi
   obtain ⟨b, hv, hs⟩ := hst.openP i hm
   obtain ⟨hxe, _⟩ := opv_hold hx (gs_lko hΓ x)
   refine (og_storeM (f := ti.ty.rep) (z' := z) (y' := q) (up := id) i (get_set hm) (hxe.trans hv) rfl (Sub.self ti.ty.rep z) hty (fun S w ha => hq P vs env S w (gs_lko ha y)) w hs).mono ?_
   rintro v w' ⟨_, rfl, _, hs'⟩
   refine rel_set (vs := vs) hB ho ?_
   have hs2 := hs'.toP i (get_set (get_set hm))
   rw [set_set, set_set, <- hv] at hs2
   rw [hset]
   show St _ _ (MS vs (σ.ob.set i (o, .var ti.ty E q)) ++ _) _ _
   rw [<- ms_set hi]
   exact hs2
  ·cases h
 ·next o s1 f hx =>
  split at h
  ·next s' E z hsame ho _ =>
   obtain ⟨hss, h1⟩ := cast_s h
   subst hss
   obtain ⟨q, h2, hq⟩ := asO_s h1
   obtain ⟨z2, hz2, h⟩ := nm_s h2
   obtain ⟨hsame⟩ := hsame
   refine ⟨_, h, Nat.le_refl _, fun fr vs env w hR => ?_⟩
   obtain ⟨hB, hst⟩ := hR
   obtain ⟨S0, _, hΓ⟩ := hst.ex
   obtain ⟨i, hi, hset, hdel⟩ := fndO_some ho
   have hm : (OS vs fr cx σ.ob)[i]? = some (mP s'.rep.c E (vs o) z) := ms_idx hi
   obtain ⟨b, hv, hs⟩ := hst.openP i hm
   obtain ⟨hok, b', hv', hxe⟩ := opv_hold hx (gs_lko hΓ x)
   rw [hv] at hv'; cases hv'
   rw [<- hsame] at hty
   refine (og_storeM (f := f.f.rep) (z' := f.get z) (y' := q) (up := fun y => f.set y z) i (get_set hm) hxe rfl (by rw [Nat.zero_add]; exact hok z) hty (fun S w ha => hq P vs env S w (gs_lko ha y)) w hs).mono ?_
   rintro v w' ⟨_, rfl, _, hs'⟩
   refine rel_set (vs := vs) hB ho ?_
   have hs2 := hs'.toP i (get_set (get_set hm))
   rw [set_set, set_set, <- hv, <- hz2] at hs2
   rw [hset]
   show St _ _ (MS vs (σ.ob.set i (o, .var s' E z2)) ++ _) _ _
   rw [<- ms_set hi]
   exact hs2
  ·cases h
 ·next o s1 j f hx =>
  split at h
  ·next s' E xs hsame ho _ =>
   obtain ⟨hss, h1⟩ := cast_s h
   cases hss
   obtain ⟨q, h2, hq⟩ := asO_s h1
   obtain ⟨z2, hz2, h⟩ := nm_s h2
   obtain ⟨hsame⟩ := hsame
   refine ⟨_, h, Nat.le_refl _, fun fr vs env w hR => ?_⟩
   obtain ⟨hB, hst⟩ := hR
   obtain ⟨S0, _, hΓ⟩ := hst.ex
   obtain ⟨i, hi, hset, hdel⟩ := fndO_some ho
   have hm : (OS vs fr cx σ.ob)[i]? = some (mO s1.rep E (vs o) xs) := ms_idx hi
   obtain ⟨hok, b, n, cap, hv, hj, hxe⟩ := opv_hold hx (gs_lko hΓ x)
   have hn : n = List.length xs := mut_frame hst hm fun S hp => own_pos hp hv
   subst hn
   obtain ⟨b', cap', hv', hc1, hc2, hs⟩ := hst.openO i hm (Nat.lt_of_le_of_lt (Nat.zero_le _) hj)
   rw [hv] at hv'; cases hv'
   rw [<- hsame] at hty
   have hsub := (Sub.rowT0 s1.rep cap xs j (List.getD xs j s1.z) (getD_some s1.z hj)).comp (hok (List.getD xs j s1.z))
   refine (og_storeM (f := f.f.rep) (y' := q) i (get_set hm) hxe rfl hsub hty (fun S w ha => hq P vs env S w (gs_lko ha y)) w hs).mono ?_
   rintro v w' ⟨_, rfl, _, hs'⟩
   refine rel_set (vs := vs) hB ho ?_
   have hlen : (List.set xs j (f.set q (List.getD xs j s1.z))).length = List.length xs := List.length_set ..
   have hs2 := hs'.closeF i (get_set (get_set hm)) (by rw [hlen]; exact hc1) hc2
   rw [set_set, set_set, hlen, <- hv, <- hz2] at hs2
   rw [hset]
   show St _ _ (MS vs (σ.ob.set i (o, .own s1 E z2)) ++ _) _ _
   rw [<- ms_set hi]
   exact hs2
  ·cases h
 ·cases h
end
end Go.Proofs.YtmggkmchbdanfaaGreat
end

section
set_option linter.unusedVariables false
set_option linter.unusedSimpArgs false
namespace Go.Proofs.YtmggkmchbdanfaaGreat
section
variable {P : Program} {cf : Cf} {fr : Fr} {cx σ : Sg} {vs vs' : Nat -> Value} {env : Env} {w : World} {R : Type} {r : R}
 {d : Option Tmp} {ty t yt : TypeId} {pos : String} {aft : Array Edge} {g : Option (Nat × Bool)} {x y : Operand}
theorem r_sliceN {et : TypeId} {ag : Bool} {sz bytes : Nat} {zero : Value} {hi : Operand} (hx : ev env x = .slice none 0 0) (ht : P.underlying t = some (.slice et)) (het : TyF P et ag sz bytes zero)
  (hh : ev env hi = .int .i64 ((0 : Nat) : Int)) (w : World) : (execOp (ev env) ⟨d, .slice t x none (some hi) none, ty, pos, aft, g⟩).run P w = .ok (.value (.slice none 0 0)) w := by
 have b1 : (0 : Int) <= ((0 : Nat) : Int) /\ ((0 : Nat) : Int) <= ((0 : Nat) : Int) := by omega
 have hrun : (Instr.sliceAt t (.slice none 0 0) none (some (.int .i64 ((0 : Nat) : Int))) none).run P w = .ok (.slice none 0 0) w := by
  unfold Instr.sliceAt
  simp only [Sem.run_bind, run_underlying ht, Result.andThen_ok]
  unfold Instr.slice
  simp only [Sem.run_bind, run_underlying ht, Result.andThen_ok]
  unfold Instr.sliceBounds
  simp [Instr.sliceBound, asIntOf, Sem.run_bind, Sem.run_pure, Result.andThen_ok, run_sizeOf het]
 simp [execOp, hx, hh] at hrun ⊢
 simp [hrun]
theorem os_del {i o : Nat} {X : Od} {Y : MF} (hi : σ.ob[i]? = some (o, X)) (hdel : delo σ.ob o = σ.ob.eraseIdx i) {Γ : List FF} (h : St fr.we fr.Se ((OS vs fr cx σ.ob).set i Y) Γ w) : St fr.we fr.Se (Y :: OS vs fr cx (delo σ.ob o)) Γ w := by
 have := St.front i h (get_set (ms_idx hi))
 rw [erase_set, ms_erase hi, <- hdel] at this
 exact this
theorem m_slice (hT : TTok P cf.tt) (hL : ELok P cf.tt) {o : Nat} {hi : Operand} {k : Sg -> Option R} (hd : okPut cx d = true) (hx : opv cx σ x = some (.ow o)) (h : mSlice cf cx σ d t o hi k = some r) :
  MOK P cx ⟨d, .slice t x none (some hi) none, ty, pos, aft, g⟩ σ k r := by
 unfold mSlice at h
 split at h
 ·next s1 E1 B s E xs ht ho =>
  obtain ⟨hss, h1⟩ := cast_s h
  cases hss
  rcases bnd_s h1 with ⟨e, _⟩ | ⟨z, m, e, h2, hz⟩
  ·cases e
  ·cases e
   obtain ⟨hm, h3⟩ := ck_s h2
   obtain ⟨ys, hys, h4⟩ := nm_s h3
   obtain ⟨bytes, zero, het⟩ := ty_el hT hL ht
   refine ⟨_, h4, Nat.le_succ _, fun fr vs env w hR => ?_⟩
   obtain ⟨hB, hst⟩ := hR
   obtain ⟨S0, _, hΓ⟩ := hst.ex
   have hxe : ev env x = vs o := opv_hold hx (gs_lko hΓ x)
   have hhi := hz P vs env S0 w (gs_lko hΓ hi)
   obtain ⟨i, hi', hset, hdel⟩ := fndO_some ho
   have hmi : (OS vs fr cx σ.ob)[i]? = some (mO s1.rep E (vs o) xs) := ms_idx hi'
   have fin : ∀ v, (execOp (ev env) ⟨d, .slice t x none (some hi) none, ty, pos, aft, g⟩).run P w = .ok (.value v) w -> St fr.we fr.Se ((OS vs fr cx σ.ob).set i (mO s1.rep E v ys)) (GS P vs env fr cx σ) w ->
     OpR P ⟨d, .slice t x none (some hi) none, ty, pos, aft, g⟩ env w (fun v w' => RelX P fr cx σ.nx vs ⟨σ.nx + 1, putR σ.rg d [(0, .ow σ.nx)], (σ.nx, .own s1 E ys) :: delo σ.ob o⟩ (put env d v) w') := by
    intro v hrun hs
    refine OpR.of_value hrun (rel_new (vs := vs) (mk := .ow) hB hd (fun e he => hB.o1 e (delo_mem e he)) (fun _ => rfl) (fun S w => hold_ow S w) ?_)
    rw [mo_own]
    exact os_del hi' hdel hs
   rcases Nat.eq_zero_or_pos (List.length xs) with h0 | h0
   ·have hm0 : m = 0 := by have : m <= List.length xs := hm; omega
    subst hm0
    have hyx : ys = xs := by rw [hys]; exact (List.length_eq_zero_iff.1 h0).symm ▸ rfl
    subst hyx
    have hid : (OS vs fr cx σ.ob).set i (mO s1.rep E (vs o) ys) = OS vs fr cx σ.ob := by
     apply List.ext_getElem?
     intro j
     rw [List.getElem?_set]
     split
     ·next hij =>
      subst hij
      split
      ·exact hmi.symm
      ·next hlt => exact absurd (List.getElem?_eq_some_iff.1 hmi).1 hlt
     ·rfl
    have hv : vs o = .slice none 0 0 \/ ∃ b cap, vs o = .slice (some ⟨b, 0, none⟩) 0 cap := mut_frame hst hmi fun S ⟨cs, h5, _⟩ => by
     rcases h5.2 with ⟨h, _⟩ | ⟨b, cap, cur, h, _⟩
     ·exact .inl h
     ·rw [h0] at h; exact .inr ⟨b, cap, h⟩
    rcases hv with hv | ⟨b, cap, hv⟩
    ·exact fin _ (r_sliceN (hxe.trans hv) (tk_sl hT ht) het hhi w) (by rw [<- hv, hid]; exact hst)
    ·exact fin _ (r_sliceT (hxe.trans hv) (tk_sl hT ht) het hhi (Nat.zero_le _) w) (by rw [<- hv, hid]; exact hst)
   ·obtain ⟨b, cap, hv, hc1, hc2, hs⟩ := hst.openO i hmi h0
    have hs2 := hs.closeO i m (get_set hmi) hm (Nat.le_trans hm hc1) hc2
    rw [set_set] at hs2
    exact fin _ (r_sliceT (hxe.trans hv) (tk_sl hT ht) het hhi (Nat.le_trans hm hc1) w) (by rw [hys]; exact hs2)
 ·cases h
theorem m_app2 (hT : TTok P cf.tt) {t' : TypeId} {same : Bool} {ti : TI} {E : TypeId} {ob : List (Nat × Od)} {xs : List ti.ty.D} {k : Sg -> Option R} (ht : P.underlying t = some (.slice E)) (hti : tyA cf E = some ti) (hd : okPut cx d = true)
  (hsame : same = true -> t = t') (h : mApp2 cf cx σ d t' same ti.ty E ti.B ti.ty.z y ob xs k = some r) :
  ∃ σ', k σ' = some r /\ σ.nx <= σ'.nx /\ ∀ (fr : Fr) (vs : Nat -> Value) (env : Env) (w : World) (u : Value), Bd cx σ -> (∀ e ∈ ob, e.1 < σ.nx) -> ev env x = u -> St fr.we fr.Se (mO ti.ty.rep E u xs :: OS vs fr cx ob) (GS P vs env fr cx σ) w ->
   OpR P ⟨d, .call ⟨.builtin .append, #[x, y], #[t, t']⟩, ty, pos, aft, g⟩ env w (fun v w' => RelX P fr cx σ.nx vs σ' (put env d v) w') := by
 obtain ⟨zero, hz1, hz2, hz3⟩ := ty_of hT hti
 have hpos := (hT _ _ hti).2.1
 have hn := (hT _ _ hti).2.2.1
 have bnd : ∀ m, m * ti.B <= 140737488355328 -> m <= 9223372036854775807 := fun m hm => by
  have := Nat.le_mul_of_pos_right m hpos
  omega
 unfold mApp2 at h
 split at h
 ·next n hn' =>
  split at h
  ·next q ik B' ht' =>
   obtain ⟨j, hj, h⟩ := ckN_s h
   obtain ⟨hb, h⟩ := ck_s h
   obtain ⟨zs, hzs, h⟩ := nm_s h
   refine ⟨_, h, Nat.le_succ _, fun fr vs env w u hB hob hx hst => ?_⟩
   obtain ⟨S0, _, hΓ⟩ := hst.ex
   refine (og_appendZ (e := ti.ty.rep) (z := ti.ty.z) (n := j) 0 ht (tk_int hT ht') hz1 hz2 hn rfl hx (by rw [(pd_i hn' (gs_lko hΓ y)).1, hj]) hz3 (bnd _ hb) hb w hst).mono ?_
   rintro v w' ⟨v', rfl, _, hs⟩
   refine rel_new (vs := vs) (mk := .ow) hB hd hob (fun _ => rfl) (fun S w => hold_ow S w) ?_
   rw [mo_own, hzs]
   exact hs
  ·cases h
 ·split at h
  ·next o2 t2 lo n hy =>
   split at h
   ·next s2 E2 zs0 ho2 =>
    obtain ⟨hs', h⟩ := grd_s h
    obtain rfl := hsame hs'
    obtain ⟨hse, h⟩ := cast_s h
    cases hse
    obtain ⟨hse, h⟩ := cast_s h
    cases hse
    obtain ⟨ys, hys, h⟩ := nm_s h
    obtain ⟨hb, h⟩ := ck_s h
    obtain ⟨zs, hzs, h⟩ := nm_s h
    refine ⟨_, h, Nat.le_succ _, fun fr vs env w u hB hob hx hst => ?_⟩
    obtain ⟨S0, _, hΓ⟩ := hst.ex
    have hv := opv_hold hy (gs_lko hΓ y)
    refine (og_appendQ (e := ti.ty.rep) (ys := ys) 0 ht hz1 hz2 hn rfl hx rfl (fun S w hM ha => ?_) (bnd _ hb) hb w hst).mono ?_
    ·have hm : (mO ti.ty.rep E2 (vs o2) zs0).p S w := geto_M (σ := ⟨σ.nx, σ.rg, ob⟩) (F := fr.F) hM.2 ho2
     rcases hv with ⟨b, m, cap, c, q1, q2, q3, q4, q5⟩ | ⟨q1, ao, c, q2, q3⟩
     ·rw [q5, hys]
      exact mo_view hm q1 q2 q3 q4
     ·subst q1
      rw [q3, hys]
      exact ⟨ao, c, by simp, by simp, by unfold maxLen; omega, .inl (by simp)⟩
    rintro v w' ⟨v', rfl, _, hs⟩
    refine rel_new (vs := vs) (mk := .ow) hB hd hob (fun _ => rfl) (fun S w => hold_ow S w) ?_
    rw [mo_own, hzs]
    exact hs
   ·cases h
  obtain ⟨hs', h⟩ := grd_s h
  obtain rfl := hsame hs'
  obtain ⟨ys, h, hys⟩ := asO_s h
  obtain ⟨hb, h⟩ := ck_s h
  obtain ⟨zs, hzs, h⟩ := nm_s h
  refine ⟨_, h, Nat.le_succ _, fun fr vs env w u hB hob hx hst => ?_⟩
  refine (og_append (e := ti.ty.rep) (ys := ys) 0 ht hz1 hz2 hn rfl hx rfl (fun S w ha => hys P vs env S w (gs_lko ha y)) (bnd _ hb) hb w hst).mono ?_
  rintro v w' ⟨v', rfl, _, hs⟩
  refine rel_new (vs := vs) (mk := .ow) hB hd hob (fun _ => rfl) (fun S w => hold_ow S w) ?_
  rw [mo_own, hzs]
  exact hs
theorem m_app (hT : TTok P cf.tt) {ags : Array Operand} {ts : Array TypeId} {k : Sg -> Option R} (hd : okPut cx d = true) (h : mApp cf cx σ d ags.toList ts.toList k = some r) :
  MOK P cx ⟨d, .call ⟨.builtin .append, ags, ts⟩, ty, pos, aft, g⟩ σ k r := by
 unfold mApp at h
 split at h
 ·next _ _ x y t t' hags hts =>
  obtain rfl : ags = #[x, y] := by cases ags; simp_all
  obtain rfl : ts = #[t, t'] := by cases ts; simp_all
  split at h
  ·next s E B ht =>
   split at h
   ·next ti hti =>
    obtain ⟨hse, h1⟩ := cast_s h
    subst hse
    split at h1
    ·next hx =>
     obtain ⟨σ', h5, h6, h7⟩ := m_app2 (ty := ty) (pos := pos) (aft := aft) (g := g) (x := x) hT (tk_sl hT ht) hti hd (fun h => beq_t h) h1
     refine ⟨σ', h5, h6, fun fr vs env w hR => ?_⟩
     obtain ⟨hB, hst⟩ := hR
     obtain ⟨S0, _, hΓ⟩ := hst.ex
     exact h7 fr vs env w _ hB hB.o1 (opv_hold hx (gs_lko hΓ x)) hst.nilO
    ·next o hx =>
     split at h1
     ·next s' E' xs ho =>
      obtain ⟨hE, h2⟩ := grd_s h1
      have hE := beq_t hE
      subst hE
      obtain ⟨hss, h3⟩ := cast_s h2
      cases hss
      obtain ⟨σ', h5, h6, h7⟩ := m_app2 (ty := ty) (pos := pos) (aft := aft) (g := g) (x := x) hT (tk_sl hT ht) hti hd (fun h => beq_t h) h3
      refine ⟨σ', h5, h6, fun fr vs env w hR => ?_⟩
      obtain ⟨hB, hst⟩ := hR
      obtain ⟨S0, _, hΓ⟩ := hst.ex
      obtain ⟨i, hi', hset, hdel⟩ := fndO_some ho
      have hmi : (OS vs fr cx σ.ob)[i]? = some (mO ti.ty.rep E' (vs o) xs) := ms_idx hi'
      have hst2 := hst.front i hmi
      rw [ms_erase hi', <- hdel] at hst2
      exact h7 fr vs env w _ hB (fun e he => hB.o1 e (delo_mem e he)) (opv_hold hx (gs_lko hΓ x)) hst2
     ·cases h1
    ·cases h1
   ·cases h
  ·cases h
 ·cases h
theorem cpy_len {α : Type} (xs ys : List α) : (cpy xs ys).length = xs.length := by
 unfold cpy; rw [List.length_append, List.length_take, List.length_drop]; omega
theorem cpy_nil {α : Type} {xs : List α} (ys : List α) (h : xs.length = 0) : cpy xs ys = xs := by
 rw [List.length_eq_zero_iff.1 h]; simp [cpy]
theorem cpy_eq {α : Type} (xs ys : List α) : List.take 0 xs ++ List.take (min ys.length xs.length) ys ++ List.drop (0 + min ys.length xs.length) xs = cpy xs ys := by simp [cpy]
theorem cpyAt_zero {α : Type} (lo : Nat) (xs ys : List α) : cpyAt lo 0 xs ys = xs := by simp [cpyAt]
theorem cpyAt_len {α : Type} {lo n : Nat} {xs : List α} (ys : List α) (h : lo + n <= xs.length) : (cpyAt lo n xs ys).length = xs.length := by
 unfold cpyAt
 rw [List.length_append, List.length_append, List.length_take, List.length_take, List.length_drop]
 omega
theorem m_copy (hT : TTok P cf.tt) (hL : ELok P cf.tt) {ags : Array Operand} {ts : Array TypeId} {k : Sg -> Option R} (hd : okPut cx d = true) (h : mCopy cf cx σ d ags.toList ts.toList k = some r) :
  MOK P cx ⟨d, .call ⟨.builtin .copy, ags, ts⟩, ty, pos, aft, g⟩ σ k r := by
 unfold mCopy at h
 split at h
 ·next x y t t' hag hts =>
  obtain rfl : ags = #[x, y] := by cases ags; simp_all
  obtain rfl : ts = #[t, t'] := by cases ts; simp_all
  split at h
  ·next s E B o ht hx =>
   split at h
   ·next s' E' xs ho =>
    obtain ⟨h1, h⟩ := grd_s h
    obtain ⟨hss, h⟩ := cast_s h
    cases hss
    obtain ⟨ys, h, hy⟩ := asO_s h
    obtain ⟨zs, hzs, h⟩ := nm_s h
    have hzs : zs = cpy (α := s.D) xs ys := hzs
    obtain ⟨bytes, zero, het⟩ := ty_el hT hL ht
    have hn1 : s.rep.n = 1 := by rw [s.n_rep]; exact beq_t h1
    refine ⟨_, h, Nat.le_refl _, fun fr vs env w hR => ?_⟩
    obtain ⟨hB, hst⟩ := hR
    obtain ⟨S0, _, hΓ⟩ := hst.ex
    have hxe : ev env x = vs o := opv_hold hx (gs_lko hΓ x)
    obtain ⟨i, hi, hset, hdel⟩ := fndO_some ho
    have hm : (OS vs fr cx σ.ob)[i]? = some (mO s.rep E' (vs o) xs) := ms_idx hi
    have fin : ∀ v w', St fr.we fr.Se ((OS vs fr cx σ.ob).set i (mO s.rep E' (vs o) zs)) (GS P vs env fr cx σ) w' -> RelX P fr cx σ.nx vs ⟨σ.nx, putR σ.rg d [], seto σ.ob o (.own s E' zs)⟩ (put env d v) w' := fun v w' hs => by
     refine rel_mk (σ' := ⟨σ.nx, putR σ.rg d [], seto σ.ob o (.own s E' zs)⟩) (d := d) (l := []) (vs := vs) (vs' := vs) (Γl := []) hB hd rfl (Nat.le_refl _) (fun _ _ => rfl) (fun _ he => absurd he List.not_mem_nil) (fun e he => ?_) (fun S w _ e he => absurd he List.not_mem_nil) ?_
     ·obtain ⟨e', h1, h2⟩ := seto_mem ho e he
      rw [<- h2]; exact hB.o1 e' h1
     ·rw [hset]
      show St _ _ (MS vs (σ.ob.set i (o, .own s E' zs)) ++ _) _ _
      rw [<- ms_set hi]
      exact hs
    rcases Nat.eq_zero_or_pos (List.length xs) with h0 | h0
    ·have hv : vs o = .slice none 0 0 \/ ∃ b cap, vs o = .slice (some ⟨b, 0, none⟩) 0 cap := mut_frame hst hm fun S ⟨cs, h5, _⟩ => by
      rcases h5.2 with ⟨h, _⟩ | ⟨b, cap, cur, h, _⟩
      ·exact .inl h
      ·rw [h0] at h; exact .inr ⟨b, cap, h⟩
     obtain ⟨ba, cap, hv⟩ : ∃ ba cap, vs o = .slice ba 0 cap := by
      rcases hv with hv | ⟨b, cap, hv⟩
      ·exact ⟨_, _, hv⟩
      ·exact ⟨_, _, hv⟩
     obtain ⟨ao, scap, hu, _⟩ := fV_slice.1 (hy P vs env S0 w (gs_lko hΓ y))
     obtain ⟨ti, hi2, i1, i2, i3⟩ := het.info
     have hs1 : (P.info? E).map (·.size) = some 1 := by rw [hi2]; simp [i1, hn1]
     have hr := run_copy_none (P := P) w t t' ty E ba ao 0 cap (List.length ys) scap (tk_sl hT ht) hs1 (Nat.min_zero _)
     rw [<- hu, <- hv, <- hxe] at hr
     have hz : zs = xs := hzs.trans (cpy_nil (α := s.D) ys h0)
     refine OpR.of_value (v := goInt 0) (w' := w) ?_ (fin _ w ?_)
     ·simp only [execOp, resolve, invoke, builtin, List.map_toArray, List.map_cons, List.map_nil, Sem.run_bind, hr, Sem.run_pure, Result.andThen_ok]
     ·have : (OS vs fr cx σ.ob).set i (mO s.rep E' (vs o) xs) = OS vs fr cx σ.ob := by
       obtain ⟨hi', h2'⟩ := List.getElem?_eq_some_iff.1 hm
       rw [<- h2', List.set_getElem_self]
      rw [hz, this]; exact hst
    ·obtain ⟨b, cap, hv, hc1, hc2, hs⟩ := hst.openO i hm h0
     refine (og_copyM (e := s.rep) (l := 0) (dLen := List.length xs) (dCap := cap) i (tk_sl hT ht) het hn1 (get_set hm) (by rw [hxe, hv]; simp) rfl (by omega) (fun S w ha => hy P vs env S w (gs_lko ha y)) w hs).mono ?_
     rintro v w' ⟨n, rfl, _, hs'⟩
     refine fin _ w' ?_
     have hz := (cpy_eq (α := s.D) xs ys).trans hzs.symm
     rw [hz] at hs'
     have hlen : List.length zs = List.length xs := by rw [hzs]; exact cpy_len (α := s.D) xs ys
     have hs2 := hs'.closeF i (get_set (get_set hm)) (by rw [hlen]; exact hc1) hc2
     rw [set_set, set_set, hlen, <- hv] at hs2
     exact hs2
   ·cases h
  ·next s E B o t2 lo n ht hx =>
   split at h
   ·next s' E' xs hsame ho _ =>
    obtain ⟨h1, h⟩ := grd_s h
    obtain ⟨hss, h⟩ := cast_s h
    cases hss
    obtain ⟨ys, h, hy⟩ := asO_s h
    obtain ⟨zs, hzs, h⟩ := nm_s h
    have hzs : zs = cpyAt (α := s.D) lo n xs ys := hzs
    obtain ⟨hsame⟩ := hsame
    subst hsame
    obtain ⟨bytes, zero, het⟩ := ty_el hT hL ht
    have hn1 : t2.rep.n = 1 := by rw [t2.n_rep]; exact beq_t h1
    refine ⟨_, h, Nat.le_refl _, fun fr vs env w hR => ?_⟩
    obtain ⟨hB, hst⟩ := hR
    obtain ⟨S0, _, hΓ⟩ := hst.ex
    have hxe := opv_hold hx (gs_lko hΓ x)
    obtain ⟨i, hi, hset, hdel⟩ := fndO_some ho
    have hm : (OS vs fr cx σ.ob)[i]? = some (mO t2.rep E' (vs o) xs) := ms_idx hi
    have fin : ∀ v w', St fr.we fr.Se ((OS vs fr cx σ.ob).set i (mO t2.rep E' (vs o) zs)) (GS P vs env fr cx σ) w' -> RelX P fr cx σ.nx vs ⟨σ.nx, putR σ.rg d [], seto σ.ob o (.own t2 E' zs)⟩ (put env d v) w' := fun v w' hs => by
     refine rel_mk (σ' := ⟨σ.nx, putR σ.rg d [], seto σ.ob o (.own t2 E' zs)⟩) (d := d) (l := []) (vs := vs) (vs' := vs) (Γl := []) hB hd rfl (Nat.le_refl _) (fun _ _ => rfl) (fun _ he => absurd he List.not_mem_nil) (fun e he => ?_) (fun S w _ e he => absurd he List.not_mem_nil) ?_
     ·obtain ⟨e', h1, h2⟩ := seto_mem ho e he
      rw [<- h2]; exact hB.o1 e' h1
     ·rw [hset]
      show St _ _ (MS vs (σ.ob.set i (o, .own t2 E' zs)) ++ _) _ _
      rw [<- ms_set hi]
      exact hs
    rcases Nat.eq_zero_or_pos n with h0 | h0
    ·obtain ⟨ba, c, hv⟩ : ∃ ba c, ev env x = .slice ba 0 c := by
      rcases hxe with ⟨b, m, cap, c, q1, q2, q3, q4, q5⟩ | ⟨q1, ao, c, q2, q3⟩
      ·exact ⟨_, c, by rw [q5, h0]⟩
      ·exact ⟨ao, c, q3⟩
     obtain ⟨ao, scap, hu, _⟩ := fV_slice.1 (hy P vs env S0 w (gs_lko hΓ y))
     obtain ⟨ti, hi2, i1, i2, i3⟩ := het.info
     have hs1 : (P.info? E).map (·.size) = some 1 := by rw [hi2]; simp [i1, hn1]
     have hr := run_copy_none (P := P) w t t' ty E ba ao 0 c (List.length ys) scap (tk_sl hT ht) hs1 (Nat.min_zero _)
     rw [<- hu, <- hv] at hr
     have hz : zs = xs := by rw [hzs, h0]; exact cpyAt_zero (α := t2.D) lo xs ys
     refine OpR.of_value (v := goInt 0) (w' := w) ?_ (fin _ w ?_)
     ·simp only [execOp, resolve, invoke, builtin, List.map_toArray, List.map_cons, List.map_nil, Sem.run_bind, hr, Sem.run_pure, Result.andThen_ok]
     ·have : (OS vs fr cx σ.ob).set i (mO t2.rep E' (vs o) xs) = OS vs fr cx σ.ob := by
       obtain ⟨hi', h2'⟩ := List.getElem?_eq_some_iff.1 hm
       rw [<- h2', List.set_getElem_self]
      rw [hz, this]; exact hst
    ·rcases hxe with ⟨b0, m, cap0, c, q1, q2, q3, q4, q5⟩ | ⟨q1, ao, c, q2, q3⟩
     ·have hml : m = List.length xs := mut_frame hst hm fun S hp => own_pos hp q1
      subst hml
      obtain ⟨b, cap, hv, hc1, hc2, hs⟩ := hst.openO i hm (by omega)
      rw [q1] at hv; cases hv
      refine (og_copyM (e := t2.rep) (l := lo) (dLen := n) (dCap := c) i (tk_sl hT ht) het hn1 (get_set hm) q5 rfl q2 (fun S w ha => hy P vs env S w (gs_lko ha y)) w hs).mono ?_
      rintro v w' ⟨nn, rfl, _, hs'⟩
      refine fin _ w' ?_
      have hs' : St fr.we fr.Se (((OS vs fr cx σ.ob).set i (mB (rowT t2.rep cap0) E' b0 xs)).set i (mB (rowT t2.rep cap0) E' b0 (cpyAt (α := t2.D) lo n xs ys))) (GS P vs env fr cx σ) w' := hs'
      rw [<- hzs] at hs'
      have hlen : List.length zs = List.length xs := by rw [hzs]; exact cpyAt_len (α := t2.D) ys q2
      have hs2 := hs'.closeF i (get_set (get_set hm)) (by rw [hlen]; exact hc1) hc2
      rw [set_set, set_set, hlen, <- q1] at hs2
      exact hs2
     ·omega
   ·cases h
  ·cases h
 ·cases h
end
end Go.Proofs.YtmggkmchbdanfaaGreat
end

section
set_option linter.unusedVariables false
set_option linter.unusedSimpArgs false
namespace Go.Proofs.YtmggkmchbdanfaaGreat
section
variable {P : Program} {cf : Cf} {fr : Fr} {cx σ : Sg} {vs vs' : Nat -> Value} {env : Env} {w : World} {R : Type} {r : R}
 {d : Option Tmp} {ty t yt : TypeId} {pos : String} {aft : Array Edge} {g : Option (Nat × Bool)} {x y : Operand}
theorem beq_f {a b : Nat} (h : a ≠ b) : Nat.beq a b = false := beq_no h
theorem fndO_delo : ∀ {ob : List (Nat × Od)} {o p : Nat}, p ≠ o -> fndO (delo ob o) p = fndO ob p
 | [], _, _, _ => rfl
 | (q, X) :: r, o, p, h => by
  unfold delo
  cases hb : Nat.beq q o
  ·simp only [cond_false]
   unfold fndO
   rw [fndO_delo h]
  ·simp only [cond_true]
   have := beq_t hb
   subst this
   conv => rhs; unfold fndO
   rw [beq_f (fun e => h e.symm)]; rfl
theorem fndO_delos {ob : List (Nat × Od)} {p : Nat} : ∀ {os : List Nat}, has os p = false -> fndO (delos ob os) p = fndO ob p
 | [], _ => rfl
 | o :: r, h => by
  simp only [has, List.any_cons, Bool.or_eq_false_iff] at h
  unfold delos
  rw [fndO_delo (fun e => by subst e; simp at h), fndO_delos h.2]
theorem delos_mem {ob : List (Nat × Od)} : ∀ {os : List Nat}, ∀ e ∈ delos ob os, e ∈ ob
 | [], _, h => h
 | o :: r, e, h => delos_mem (os := r) e (delo_mem e h)
theorem perm_er {α : Type _} : ∀ {l : List α} {i : Nat} {a : α}, l[i]? = some a -> l.Perm (a :: l.eraseIdx i)
 | [], _, _, h => by simp at h
 | b :: l, 0, a, h => by simp at h; subst h; exact List.Perm.refl _
 | b :: l, i + 1, a, h => ((perm_er (l := l) (i := i) (by simpa using h)).cons b).trans (List.Perm.swap _ _ _)
theorem os_perm {ob : List (Nat × Od)} {o : Nat} {X : Od} (h : fndO ob o = some X) : (OS vs fr cx ob).Perm (moF vs (o, X) :: OS vs fr cx (delo ob o)) := by
 obtain ⟨i, h1, _, h3⟩ := fndO_some h
 show (MS vs ob ++ (MS vs cx.ob ++ fr.F)).Perm (moF vs (o, X) :: (MS vs (delo ob o) ++ (MS vs cx.ob ++ fr.F)))
 rw [h3, <- ms_erase h1]
 exact perm_er (ms_idx h1)
theorem argsG_s (hC : ∀ s ∈ cf.cs, SigOK P s) : ∀ {dom : List AM} {xs : List Operand} {cs : List PD} {k : AsD dom -> List Nat -> Option R}, argsG cf cx σ dom xs cs k = some r ->
  ∃ z os, k z os = some r /\ xs.length + cs.length = dom.length /\ (∀ o ∈ os, ∃ X, (o, X) ∈ σ.ob) /\ ∀ vs (fr : Fr) env S w, (∀ x, LkO P vs env S w cx σ x) -> ∀ cvs : List Value, cvs.length = cs.length -> All S (capF cs cvs) w ->
   All S (argFs P dom z (xs.map (ev env) ++ cvs)) w /\ (OS vs fr cx σ.ob).Perm (argMs dom z (xs.map (ev env) ++ cvs) ++ OS vs fr cx (delos σ.ob os)) /\ ownVs dom (xs.map (ev env) ++ cvs) = os.map vs
 | [], [], [], k, h => ⟨(), [], h, rfl, fun _ ho => absurd ho List.not_mem_nil, fun _ _ _ _ _ _ _ _ _ => ⟨trivial, List.Perm.refl _, rfl⟩⟩
 | .q t :: dom, [], c :: cs, k, h => by
  simp only [argsG] at h
  obtain ⟨e, h⟩ := cast_s h
  subst e
  obtain ⟨z, os, h1, h2, ho, h3⟩ := argsG_s hC h
  refine ⟨_, os, h1, by simp at h2 ⊢; omega, ho, fun vs fr env S w hl cvs hcl hca => ?_⟩
  cases cvs with
  | nil => cases hcl
  | cons v cvs => obtain ⟨h4, h5, h6⟩ := h3 vs fr env S w hl cvs (by simpa using hcl) hca.2; exact ⟨⟨hca.1, h4⟩, h5, h6⟩
 | .d t :: dom, x :: xs, cs, k, h => by
  simp only [argsG] at h
  obtain ⟨y, h, hy⟩ := asO_s h
  obtain ⟨z, os, h1, h2, ho, h3⟩ := argsG_s hC h
  exact ⟨_, os, h1, by simp at h2 ⊢; omega, ho, fun vs fr env S w hl cvs hcl hca => by obtain ⟨h4, h5, h6⟩ := h3 vs fr env S w hl cvs hcl hca; exact ⟨⟨hy P vs env S w (hl x), h4⟩, h5, h6⟩⟩
 | .q t :: dom, x :: xs, cs, k, h => by
  simp only [argsG] at h
  split at h
  ·next s y hx =>
   obtain ⟨e, h⟩ := cast_s h
   subst e
   obtain ⟨z, os, h1, h2, ho, h3⟩ := argsG_s hC h
   exact ⟨_, os, h1, by simp at h2 ⊢; omega, ho, fun vs fr env S w hl cvs hcl hca => by obtain ⟨h4, h5, h6⟩ := h3 vs fr env S w hl cvs hcl hca; exact ⟨⟨opv_hold hx (hl x), h4⟩, h5, h6⟩⟩
  ·cases h
 | .own t E :: dom, x :: xs, cs, k, h => by
  simp only [argsG] at h
  split at h
  ·next o hx =>
   split at h
   ·next s E' ys hob =>
    obtain ⟨hE, h7⟩ := grd_s h
    have hE := beq_t hE
    subst hE
    obtain ⟨e, h8⟩ := cast_s h7
    cases e
    obtain ⟨z, os, h9, h2, ho, h3⟩ := argsG_s hC h8
    obtain ⟨hn, h1⟩ := grd_s h9
    simp only [Bool.not_eq_true'] at hn
    refine ⟨_, o :: os, h1, by simp at h2 ⊢; omega, fun p hp => ?_, fun vs fr env S w hl cvs hcl hca => ?_⟩
    ·rcases List.mem_cons.1 hp with rfl | hp
     ·obtain ⟨i, h4, _⟩ := fndO_some hob
      exact ⟨_, List.mem_of_getElem? h4⟩
     ·exact ho p hp
    obtain ⟨h4, h5, h6⟩ := h3 vs fr env S w hl cvs hcl hca
    have hv : ev env x = vs o := opv_hold hx (hl x)
    refine ⟨⟨trivial, h4⟩, h5.trans ?_, ?_⟩
    ·have hp := os_perm (vs := vs) (fr := fr) (cx := cx) ((fndO_delos hn).trans hob)
     refine (List.Perm.append_left _ hp).trans ?_
     refine List.perm_middle.trans ?_
     show List.Perm _ (mO t.rep E (ev env x) _ :: (argMs dom z (xs.map (ev env) ++ cvs) ++ _))
     rw [hv]
     exact List.Perm.refl _
    ·show ev env x :: ownVs dom (xs.map (ev env) ++ cvs) = vs o :: os.map vs
     rw [hv, h6]
   ·cases h
  ·cases h
 | .fn dom' cod :: dom, x :: xs, cs, k, h => by
  simp only [argsG] at h
  obtain ⟨f, h, hf⟩ := asF_s hC h
  obtain ⟨z, os, h1, h2, ho, h3⟩ := argsG_s hC h
  refine ⟨_, os, h1, by simp at h2 ⊢; omega, ho, fun vs fr env S w hl cvs hcl hca => ?_⟩
  obtain ⟨h4, h5, h6⟩ := h3 vs fr env S w hl cvs hcl hca
  refine ⟨⟨?_, h4⟩, h5, h6⟩
  cases hv : opv cx σ x with
  | none => rename_i h0; rw [hv] at h0; simp [asF] at h0
  | some v => exact hf vs S w v _ hv (opv_hold hv (hl x))
 | [], _ :: _, _, _, h => by simp [argsG] at h
 | [], [], _ :: _, _, h => by simp [argsG] at h
 | .d _ :: _, [], _, _, h => by simp [argsG] at h
 | .own _ _ :: _, [], _, _, h => by simp [argsG] at h
 | .fn _ _ :: _, [], _, _, h => by simp [argsG] at h
 | .q _ :: _, [], [], _, h => by simp [argsG] at h
def ovs : List RM -> List Value -> Nat -> (Nat -> Value) -> Nat -> Value
 | [], _, _, vs => vs
 | .d _ :: r, us, o, vs => ovs r us.tail o vs
 | .own _ _ :: r, us, o, vs => upv (ovs r us.tail (o + 1) vs) o (us.headD undef)
theorem ovs_old : ∀ {rs : List RM} {us : List Value} {o k : Nat}, k < o -> ovs rs us o vs k = vs k
 | [], _, _, _, _ => rfl
 | .d _ :: r, us, o, k, h => ovs_old (rs := r) h
 | .own _ _ :: r, us, o, k, h => by
  show upv _ o _ k = _
  rw [upv_old h, ovs_old (rs := r) (by omega)]
theorem upv_ne {n o : Nat} {v : Value} (h : o ≠ n) : upv vs n v o = vs o := by unfold upv; rw [beq_no h]; rfl
theorem resG_ge : ∀ {rs : List RM} {x : RsD rs} {i o : Nat}, (∀ e ∈ (resG rs x i o).2, o <= e.1 /\ e.1 < o + (resG rs x i o).2.length)
 | [], _, _, _, e, he => absurd he List.not_mem_nil
 | [.d _], _, _, _, e, he => absurd he List.not_mem_nil
 | [.own _ _], _, _, o, e, he => by
  obtain rfl := List.mem_singleton.1 he
  exact ⟨Nat.le_refl _, Nat.lt_succ_self _⟩
 | .d t :: n :: r, x, i, o, e, he => resG_ge (rs := n :: r) (x := x.2) (i := i + 1) e he
 | .own t E :: n :: r, x, i, o, e, he => by
  have he : e ∈ (o, Od.own t E x.1) :: (resG (n :: r) x.2 (i + 1) (o + 1)).2 := he
  have hlen : (resG (.own t E :: n :: r) x i o).2.length = (resG (n :: r) x.2 (i + 1) (o + 1)).2.length + 1 := rfl
  rw [hlen]
  rcases List.mem_cons.1 he with rfl | he
  ·exact ⟨Nat.le_refl _, by show o < _; omega⟩
  ·have := resG_ge (rs := n :: r) (x := x.2) (i := i + 1) (o := o + 1) e he
   omega
theorem resG_ms : ∀ {rs : List RM} {x : RsD rs} {us : List Value} {i o : Nat}, MS (ovs rs us o vs) (resG rs x i o).2 = resMs rs x us
 | [], _, _, _, _ => rfl
 | [.d _], _, _, _, _ => rfl
 | [.own t E], x, us, i, o => by
  exact congrArg (fun m => [m]) (mo_own (vs := vs) (xs := x))
 | .d t :: n :: r, x, us, i, o => by
  show MS (ovs (n :: r) us.tail o vs) (resG (n :: r) x.2 (i + 1) o).2 = resMs (n :: r) x.2 us.tail
  exact resG_ms
 | .own t E :: n :: r, x, us, i, o => by
  refine List.cons_eq_cons.2 ⟨mo_own (xs := x.1), ?_⟩
  exact (MS_congr (ob := (resG (n :: r) x.2 (i + 1) (o + 1)).2) (vs := ovs (n :: r) us.tail (o + 1) vs) fun e he => upv_ne (by have := resG_ge e he; omega)).trans resG_ms
theorem resG_ref : ∀ {rs : List RM} {x : RsD rs} {i o : Nat}, ∀ e ∈ (resG rs x i o).1, ∀ p, refO e.2 = some p -> p < o + (resG rs x i o).2.length
 | [], _, _, _, e, he => absurd he List.not_mem_nil
 | [.d _], _, _, _, e, he => by
  obtain rfl := List.mem_singleton.1 he
  intro p hp; cases hp
 | [.own _ _], _, _, o, e, he => by
  obtain rfl := List.mem_singleton.1 he
  intro p hp; cases hp; exact Nat.lt_succ_self _
 | .d t :: n :: r, x, i, o, e, he => by
  rcases List.mem_cons.1 he with rfl | he
  ·intro p hp; cases hp
  ·exact resG_ref (rs := n :: r) (x := x.2) (i := i + 1) e he
 | .own t E :: n :: r, x, i, o, e, he => by
  have hlen : (resG (.own t E :: n :: r) x i o).2.length = (resG (n :: r) x.2 (i + 1) (o + 1)).2.length + 1 := rfl
  rw [hlen]
  rcases List.mem_cons.1 he with rfl | he
  ·intro p hp; cases hp; omega
  ·intro p hp
   have := resG_ref (rs := n :: r) (x := x.2) (i := i + 1) (o := o + 1) e he p hp
   omega
theorem resG_lo : ∀ {rs : List RM} {x : RsD rs} {i o : Nat}, ∀ e ∈ (resG rs x i o).1, ∀ p, refO e.2 = some p -> o <= p
 | [], _, _, _, e, he => absurd he List.not_mem_nil
 | [.d _], _, _, _, e, he => by
  obtain rfl := List.mem_singleton.1 he
  intro p hp; cases hp
 | [.own _ _], _, _, o, e, he => by
  obtain rfl := List.mem_singleton.1 he
  intro p hp; cases hp; exact Nat.le_refl _
 | .d t :: n :: r, x, i, o, e, he => by
  rcases List.mem_cons.1 he with rfl | he
  ·intro p hp; cases hp
  ·exact resG_lo (rs := n :: r) (x := x.2) (i := i + 1) e he
 | .own t E :: n :: r, x, i, o, e, he => by
  rcases List.mem_cons.1 he with rfl | he
  ·intro p hp; cases hp; exact Nat.le_refl _
  ·intro p hp
   have := resG_lo (rs := n :: r) (x := x.2) (i := i + 1) (o := o + 1) e he p hp
   omega
theorem resG_s : ∀ {rs : List RM} {x : RsD rs} {us : List Value} {i o : Nat} {S : Nat -> Prop}, All S (resFs rs x us) w -> us.length = rs.length -> ∀ e ∈ (resG rs x i o).1, ∃ j u, e.1 = i + j /\ us[j]? = some u /\ (hold P (ovs rs us o vs) e.2 u).p S w
 | [], _, _, _, _, _, _, _, e, he => absurd he List.not_mem_nil
 | [m], _, [], _, _, _, _, hl, _, _ => by cases hl
 | [.d _], x, u :: us, i, o, S, h, hl, e, he => by
  obtain rfl := List.mem_singleton.1 he
  exact ⟨0, u, rfl, rfl, h.1⟩
 | [.own _ _], x, u :: us, i, o, S, h, hl, e, he => by
  obtain rfl := List.mem_singleton.1 he
  exact ⟨0, u, rfl, rfl, (upv_new (vs := vs)).symm⟩
 | _ :: n :: r, x, [], _, _, _, _, hl, _, _ => by cases hl
 | .d t :: n :: r, x, u :: us, i, o, S, h, hl, e, he => by
  rcases List.mem_cons.1 he with rfl | he
  ·exact ⟨0, u, rfl, rfl, h.1⟩
  ·obtain ⟨j, v, h1, h2, h3⟩ := resG_s (rs := n :: r) (x := x.2) (i := i + 1) (o := o) h.2 (by simpa using hl) e he
   exact ⟨j + 1, v, by omega, by simpa using h2, h3⟩
 | .own t E :: n :: r, x, u :: us, i, o, S, h, hl, e, he => by
  rcases List.mem_cons.1 he with rfl | he
  ·exact ⟨0, u, rfl, rfl, (upv_new (vs := ovs (n :: r) us (o + 1) vs)).symm⟩
  ·obtain ⟨j, v, h1, h2, h3⟩ := resG_s (rs := n :: r) (x := x.2) (i := i + 1) (o := o + 1) h (by simpa using hl) e he
   refine ⟨j + 1, v, by omega, by simpa using h2, ?_⟩
   have : hold P (ovs (.own t E :: n :: r) (u :: us) o vs) e.2 v = hold P (ovs (n :: r) us (o + 1) vs) e.2 v := hold_vs (fun p hp => upv_ne (by have := resG_lo (rs := n :: r) (x := x.2) (i := i + 1) (o := o + 1) e he p hp; omega)) v
   rw [this]; exact h3
theorem sigG_s {f : FuncId} {ags : List Operand} : ∀ {cs : List Sig} {s : Sig}, sigG cx σ f ags cs = some s -> s ∈ cs /\ s.f = f
 | c :: cs, s, h => by
  unfold sigG at h
  split at h
  ·next hb =>
   simp only [Option.some.injEq] at h
   subst h
   rw [Bool.and_eq_true] at hb
   exact ⟨List.mem_cons_self .., beq_t hb.1⟩
  ·obtain ⟨h1, h2⟩ := sigG_s h; exact ⟨List.mem_cons_of_mem _ h1, h2⟩
theorem resG_hold {rs : List RM} {x : RsD rs} {us : List Value} {o : Nat} {S : Nat -> Prop} (h : All S (resFs rs x us) w) (hl : us.length = rs.length) : ∀ e ∈ (resG rs x (bif oneRes rs then 0 else 1) o).1, (holdC P (ovs rs us o vs) e.2 (oneOr us) e.1).p S w := by
 intro e he
 obtain ⟨j, u, h1, h2, h3⟩ := resG_s (P := P) (vs := vs) h hl e he
 obtain ⟨i, dv⟩ := e
 match us, hl, h2 with
 | [], _, h2 => simp at h2
 | [v], hl, h2 =>
  obtain rfl : j = 0 := by
   rcases j with _ | j
   ·rfl
   ·simp at h2
  obtain ⟨m, rfl⟩ := List.length_eq_one_iff.1 hl.symm
  simp only [oneRes, cond_true] at h1
  simp only [List.getElem?_cons_zero, Option.some.injEq] at h2
  subst h1; subst h2
  exact h3
 | v :: v' :: us, hl, h2 =>
  have : oneRes rs = false := by
   match rs, hl with
   | [], _ => rfl
   | _ :: _ :: _, _ => rfl
  rw [this] at h1
  simp only [cond_false] at h1
  obtain rfl : i = j + 1 := by omega
  exact ⟨(v :: v' :: us).toArray, u, rfl, by simpa using h2, h3⟩
def ownUs : List RM -> List Value -> List Value
 | [], _ => []
 | .d _ :: r, us => ownUs r us.tail
 | .own _ _ :: r, us => us.headD undef :: ownUs r us.tail
theorem resG_vals : ∀ {rs : List RM} {x : RsD rs} {us : List Value} {i o : Nat}, (resG rs x i o).2.map (fun e => ovs rs us o vs e.1) = ownUs rs us
 | [], _, _, _, _ => rfl
 | [.d _], x, us, i, o => rfl
 | [.own t E], x, us, i, o => by
  show [upv vs o (us.headD undef) o] = [us.headD undef]
  rw [upv_new]
 | .d t :: n :: r, x, us, i, o => resG_vals (rs := n :: r) (x := x.2) (us := us.tail) (i := i + 1) (o := o)
 | .own t E :: n :: r, x, us, i, o => by
  show upv (ovs (n :: r) us.tail (o + 1) vs) o (us.headD undef) o :: (resG (n :: r) x.2 (i + 1) (o + 1)).2.map (fun e => ovs (.own t E :: n :: r) us o vs e.1) = us.headD undef :: ownUs (n :: r) us.tail
  rw [upv_new, <- resG_vals (rs := n :: r) (x := x.2) (us := us.tail) (i := i + 1) (o := o + 1)]
  congr 1
  refine List.map_congr_left fun e he => ?_
  exact upv_ne (by have := resG_ge e he; omega)
theorem tail_us : ∀ {m : Nat} {rs : List RM} {us : List Value}, tailOwn m rs = true -> us.length = rs.length -> ownUs rs us = us.drop m
 | 0, [], us, _, hl => by
  obtain rfl := List.length_eq_zero_iff.1 hl
  rfl
 | 0, .own _ _ :: r, [], _, hl => by cases hl
 | 0, .own _ _ :: r, u :: us, h, hl => by
  show u :: ownUs r us = u :: us
  rw [tail_us (m := 0) (rs := r) (us := us) h (by simpa using hl)]; rfl
 | m + 1, .d _ :: r, [], _, hl => by cases hl
 | m + 1, .d _ :: r, u :: us, h, hl => tail_us (m := m) (rs := r) (us := us) h (by simpa using hl)
 | 0, .d _ :: _, _, h, _ => by cases h
 | _ + 1, [], _, h, _ => by cases h
 | _ + 1, .own _ _ :: _, _, h, _ => by cases h
theorem zipB_ms {vs' : Nat -> Value} : ∀ {os : List Nat} {ob : List (Nat × Od)}, os.map vs' = ob.map (fun e => vs' e.1) -> MS vs' (zipB os ob) = MS vs' ob
 | [], [], _ => rfl
 | [], _ :: _, h => by cases h
 | _ :: _, [], h => by cases h
 | o :: os, (p, X) :: ob, h => by
  simp only [List.map_cons, List.cons.injEq] at h
  show moF vs' (o, X) :: MS vs' (zipB os ob) = moF vs' (p, X) :: MS vs' ob
  rw [zipB_ms h.2]
  congr 1
  cases X <;> simp only [moF] <;> rw [h.1]
theorem zipB_mem : ∀ {os : List Nat} {ob : List (Nat × Od)}, ∀ e ∈ zipB os ob, e.1 ∈ os
 | [], _, e, he => absurd he (by simp [zipB])
 | _ :: _, [], e, he => absurd he (by simp [zipB])
 | o :: os, p :: ob, e, he => by
  rcases List.mem_cons.1 (show e ∈ (o, p.2) :: zipB os ob from he) with rfl | he
  ·exact List.mem_cons_self ..
  ·exact List.mem_cons_of_mem _ (zipB_mem e he)
theorem resG_holdB {rs : List RM} {x : RsD rs} {us : List Value} {o m : Nat} {S : Nat -> Prop} (h : All S (resFs rs x us) w) (hl : us.length = rs.length) (hm : m <= us.length) : ∀ e ∈ (resG rs x (one1 m) o).1.filter (fun e => Nat.blt e.1 (one1 m + m)), (holdC P (ovs rs us o vs) e.2 (oneOr (us.take m)) e.1).p S w := by
 intro e he
 obtain ⟨he, hb⟩ := List.mem_filter.1 he
 have hb : e.1 < one1 m + m := Nat.blt_eq.mp hb
 obtain ⟨j, u, h1, h2, h3⟩ := resG_s (P := P) (vs := vs) h hl e he
 obtain ⟨i, dv⟩ := e
 simp only at h1 hb
 have hj : j < m := by omega
 have h4 : (us.take m)[j]? = some u := by rw [List.getElem?_take, if_pos hj]; exact h2
 have h5 : (us.take m).length = m := by rw [List.length_take]; omega
 generalize us.take m = vs' at *
 match vs', h5, h4 with
 | [], h5, h4 => simp at h4
 | [v], h5, h4 =>
  obtain rfl : m = 1 := h5.symm
  obtain rfl : j = 0 := by omega
  simp only [List.getElem?_cons_zero, Option.some.injEq] at h4
  obtain rfl : i = 0 := h1
  subst h4
  exact h3
 | v :: v' :: us', h5, h4 =>
  have : one1 m = 1 := by
   unfold one1
   rw [beq_f (by simp at h5; omega)]; rfl
  rw [this] at h1
  obtain rfl : i = j + 1 := by omega
  exact ⟨(v :: v' :: us').toArray, u, rfl, by simpa using h4, h3⟩
theorem m_call (hC : ∀ s ∈ cf.cs, SigOK P s) {f : Operand} {f' : FuncId} {cs : List PD} {s : Sig} {ags : Array Operand} {ts : Array TypeId} {k : Sg -> Option R} (hd : okPut cx d = true) (hf : opv cx σ f = some (.fn f' cs))
  (hs : sigG cx σ f' ags.toList cf.cs = some s) (h : mCall cf cx σ d s ags.toList cs k = some r) : MOK P cx ⟨d, .call ⟨.value f, ags, ts⟩, ty, pos, aft, g⟩ σ k r := by
 obtain ⟨h1, h2⟩ := sigG_s hs
 have hok := hC s h1
 unfold mCall at h
 obtain ⟨z, os, h, hlen, hos, hz⟩ := argsG_s hC h
 obtain ⟨q, hq, h⟩ := bd_s h
 split at h
 ·next hbk =>
   refine ⟨_, h, Nat.le_add_right _ _, fun fr vs env w hR => ?_⟩
   obtain ⟨hB, hst⟩ := hR
   obtain ⟨S0, _, hΓ⟩ := hst.ex
   obtain ⟨cvs, hv, hcl, _⟩ := opv_hold hf (gs_lko hΓ f)
   have hfn := hok.plain hbk hq (vs := ags.toList.map (ev env) ++ cvs) (by simp at hlen ⊢; omega)
   have hrun : (execOp (ev env) ⟨d, .call ⟨.value f, ags, ts⟩, ty, pos, aft, g⟩).run P w = .ok (.enter f' (ags.toList.map (ev env) ++ cvs).toArray) w := by
    simp [execOp, resolve, hv, Deferred.ofValue, invoke, run_callFunc (h2 ▸ hok.1)]
   have hst2 : St fr.we fr.Se (argMs s.dom z (ags.toList.map (ev env) ++ cvs) ++ OS vs fr cx (delos σ.ob os)) (argFs P s.dom z (ags.toList.map (ev env) ++ cvs) ++ GS P vs env fr cx σ) w := by
    refine St.perm (St.weak hst fun S w ha => All.append ?_ ha) (hz vs fr env S0 w (gs_lko hΓ) cvs hcl ?_).2.1
    ·obtain ⟨cvs', hv', hcl', hca'⟩ := opv_hold hf (gs_lko ha f)
     rw [hv] at hv'
     have : cvs = cvs' := by simpa using hv'
     subst this
     exact (hz vs fr env S w (gs_lko ha) cvs hcl hca').1
    ·obtain ⟨cvs', hv', hcl', hca'⟩ := opv_hold hf (gs_lko hΓ f)
     rw [hv] at hv'
     have : cvs = cvs' := by simpa using hv'
     subst this
     exact hca'
   unfold OpR
   rw [hrun]
   rw [h2] at hfn
   refine (hfn fr.we fr.Se _ _ w hst2).mono ?_
   rintro e w' ⟨us, he, hus, hs'⟩
   refine ⟨oneOr us, he, ?_⟩
   refine rel_mk (vs := vs) (vs' := ovs s.cod us σ.nx vs) (l := (resG s.cod q (bif oneRes s.cod then 0 else 1) σ.nx).1) (Γl := resFs s.cod q us) hB hd rfl (Nat.le_add_right _ _) (fun o ho => ovs_old ho) resG_ref ?_ (fun S w ha => resG_hold ha hus) ?_
   ·intro e he
    rcases List.mem_append.1 he with he | he
    ·exact (resG_ge e he).2
    ·exact Nat.lt_of_lt_of_le (hB.o1 e (delos_mem e he)) (Nat.le_add_right _ _)
   ·have e1 : OS (ovs s.cod us σ.nx vs) fr cx ((resG s.cod q (bif oneRes s.cod then 0 else 1) σ.nx).2 ++ delos σ.ob os) = resMs s.cod q us ++ OS vs fr cx (delos σ.ob os) := by
     show MS _ (_ ++ _) ++ (MS _ cx.ob ++ _) = _
     have a1 : MS (ovs s.cod us σ.nx vs) (delos σ.ob os) = MS vs (delos σ.ob os) := MS_congr fun e he => ovs_old (hB.o1 e (delos_mem e he))
     have a2 : MS (ovs s.cod us σ.nx vs) cx.ob = MS vs cx.ob := MS_congr fun e he => ovs_old (hB.o2 e he)
     rw [a2, show MS (ovs s.cod us σ.nx vs) ((resG s.cod q (bif oneRes s.cod then 0 else 1) σ.nx).2 ++ delos σ.ob os) = MS _ _ ++ MS _ _ from List.map_append, a1, resG_ms, List.append_assoc]
    rw [e1]
    exact hs'
 ·next b hbk =>
   obtain ⟨ht, h⟩ := grd_s h
   refine ⟨_, h, Nat.le_add_right _ _, fun fr vs env w hR => ?_⟩
   obtain ⟨hB, hst⟩ := hR
   obtain ⟨S0, _, hΓ⟩ := hst.ex
   obtain ⟨cvs, hv, hcl, _⟩ := opv_hold hf (gs_lko hΓ f)
   have hfn := hok.2 z q hq (ags.toList.map (ev env) ++ cvs) (by simp at hlen ⊢; omega)
   rw [hbk] at hfn
   have hrun : (execOp (ev env) ⟨d, .call ⟨.value f, ags, ts⟩, ty, pos, aft, g⟩).run P w = .ok (.enter f' (ags.toList.map (ev env) ++ cvs).toArray) w := by
    simp [execOp, resolve, hv, Deferred.ofValue, invoke, run_callFunc (h2 ▸ hok.1)]
   have hown : ownVs s.dom (ags.toList.map (ev env) ++ cvs) = os.map vs := by
    obtain ⟨cvs', hv', hcl', hca'⟩ := opv_hold hf (gs_lko hΓ f)
    rw [hv] at hv'
    have : cvs = cvs' := by simpa using hv'
    subst this
    exact (hz vs fr env S0 w (gs_lko hΓ) cvs hcl hca').2.2
   have hst2 : St fr.we fr.Se (argMs s.dom z (ags.toList.map (ev env) ++ cvs) ++ OS vs fr cx (delos σ.ob os)) (argFs P s.dom z (ags.toList.map (ev env) ++ cvs) ++ GS P vs env fr cx σ) w := by
    refine St.perm (St.weak hst fun S w ha => All.append ?_ ha) (hz vs fr env S0 w (gs_lko hΓ) cvs hcl ?_).2.1
    ·obtain ⟨cvs', hv', hcl', hca'⟩ := opv_hold hf (gs_lko ha f)
     rw [hv] at hv'
     have : cvs = cvs' := by simpa using hv'
     subst this
     exact (hz vs fr env S w (gs_lko ha) cvs hcl hca').1
    ·obtain ⟨cvs', hv', hcl', hca'⟩ := opv_hold hf (gs_lko hΓ f)
     rw [hv] at hv'
     have : cvs = cvs' := by simpa using hv'
     subst this
     exact hca'
   unfold OpR
   rw [hrun]
   rw [h2] at hfn
   refine (hfn fr.we fr.Se _ _ w hst2).mono ?_
   rintro e w' ⟨us, he, ⟨hus, hback⟩, hs'⟩
   refine ⟨oneOr (us.take (s.cod.length - (b + 1))), he, ?_⟩
   have hold' : ∀ o, o < σ.nx -> ovs s.cod us σ.nx vs o = vs o := fun o ho => ovs_old ho
   have hlt : ∀ o ∈ os, o < σ.nx := fun o ho => by
    obtain ⟨X, hX⟩ := hos o ho
    exact hB.o1 _ hX
   have hms : MS (ovs s.cod us σ.nx vs) (zipB os (resG s.cod q (one1 (s.cod.length - (b + 1))) σ.nx).2) = resMs s.cod q us := by
    rw [zipB_ms, resG_ms]
    rw [resG_vals, tail_us ht hus, hback, hown]
    exact List.map_congr_left fun o ho => hold' o (hlt o ho)
   refine rel_mk (vs := vs) (vs' := ovs s.cod us σ.nx vs) (l := (resG s.cod q (one1 (s.cod.length - (b + 1))) σ.nx).1.filter fun e => Nat.blt e.1 (one1 (s.cod.length - (b + 1)) + (s.cod.length - (b + 1)))) (Γl := resFs s.cod q us) hB hd rfl (Nat.le_add_right _ _) hold' (fun e he => resG_ref e (List.mem_filter.1 he).1) ?_ (fun S w ha => resG_holdB ha hus (by omega)) ?_
   ·intro e he
    rcases List.mem_append.1 he with he | he
    ·exact Nat.lt_of_lt_of_le (hlt _ (zipB_mem e he)) (Nat.le_add_right _ _)
    ·exact Nat.lt_of_lt_of_le (hB.o1 e (delos_mem e he)) (Nat.le_add_right _ _)
   ·have e1 : OS (ovs s.cod us σ.nx vs) fr cx (zipB os (resG s.cod q (one1 (s.cod.length - (b + 1))) σ.nx).2 ++ delos σ.ob os) = resMs s.cod q us ++ OS vs fr cx (delos σ.ob os) := by
     show MS _ (_ ++ _) ++ (MS _ cx.ob ++ _) = _
     have a1 : MS (ovs s.cod us σ.nx vs) (delos σ.ob os) = MS vs (delos σ.ob os) := MS_congr fun e he => ovs_old (hB.o1 e (delos_mem e he))
     have a2 : MS (ovs s.cod us σ.nx vs) cx.ob = MS vs cx.ob := MS_congr fun e he => ovs_old (hB.o2 e he)
     rw [a2, show MS (ovs s.cod us σ.nx vs) (zipB os (resG s.cod q (one1 (s.cod.length - (b + 1))) σ.nx).2 ++ delos σ.ob os) = MS _ _ ++ MS _ _ from List.map_append, a1, hms, List.append_assoc]
    rw [e1]
    exact hs'
end
end Go.Proofs.YtmggkmchbdanfaaGreat
end

section
set_option linter.unusedVariables false
set_option linter.unusedSimpArgs false
namespace Go.Proofs.YtmggkmchbdanfaaGreat
theorem St.pr {we : World} {Se : Nat -> Prop} {ms : List MF} {Γ : List FF} {w : World} {p : Prop} (hp : p) (h : St we Se ms Γ w) : St we Se (mPr p :: ms) Γ w := by
 obtain ⟨h1, h2, h3, S, h4, h5, h6, h7, h8⟩ := h
 refine ⟨h1, h2, ⟨fun k hk => hk.elim, h3⟩, S, h4, h5, fun m hm k hk => ?_, ⟨hp, h7⟩, h8⟩
 rcases List.mem_cons.1 hm with rfl | hm
 ·exact hk.elim
 ·exact h6 m hm k hk
theorem St.unpr {we : World} {Se : Nat -> Prop} {ms : List MF} {Γ : List FF} {w : World} {p : Prop} (h : St we Se (mPr p :: ms) Γ w) : p /\ St we Se ms Γ w :=
 ⟨mut_frame h (i := 0) rfl fun S hp => hp, St.drop (i := 0) h⟩
section
variable {P : Program} {cf : Cf} {fr : Fr} {cx σ : Sg} {vs vs' : Nat -> Value} {env : Env} {w : World} {R : Type} {r : R}
 {d : Option Tmp} {ty t yt : TypeId} {pos : String} {aft : Array Edge} {g : Option (Nat × Bool)} {x y : Operand}
theorem holdC_map {d d' : Dv} {v : Value} {i : Nat} {S : Nat -> Prop} (h : (holdC P vs d v i).p S w) (hm : ∀ u, (hold P vs d u).p S w -> (hold P vs d' u).p S w) : (holdC P vs d' v i).p S w := by
 cases i with
 | zero => exact hm _ h
 | succ i => obtain ⟨us, u, h1, h2, h3⟩ := h; exact ⟨us, u, h1, h2, hm _ h3⟩
theorem rel_new2 {v u : Value} {mk : Nat -> Dv} {X : Od} {ob : List (Nat × Od)} (hB : Bd cx σ) (hd : okPut cx d = true) (hob : ∀ e ∈ ob, e.1 < σ.nx) (href : ∀ o, refO (mk o) = some o) (hmk : ∀ S w, (hold P (upv vs σ.nx u) (mk σ.nx) v).p S w)
  (hst : St fr.we fr.Se (moF (upv vs σ.nx u) (σ.nx, X) :: OS vs fr cx ob) (GS P vs env fr cx σ) w) : RelX P fr cx σ.nx vs ⟨σ.nx + 1, putR σ.rg d [(0, mk σ.nx)], (σ.nx, X) :: ob⟩ (put env d v) w := by
 refine rel_mk (σ' := ⟨σ.nx + 1, putR σ.rg d [(0, mk σ.nx)], (σ.nx, X) :: ob⟩) (vs := vs) (vs' := upv vs σ.nx u) (Γl := []) hB hd rfl (Nat.le_succ _) (fun o ho => upv_old ho) ?_ ?_ ?_ ?_
 ·intro e he o ho
  obtain rfl := List.mem_singleton.1 he
  rw [href] at ho
  cases ho; exact Nat.lt_succ_self _
 ·intro e he
  rcases List.mem_cons.1 he with rfl | he
  ·exact Nat.lt_succ_self _
  ·exact Nat.lt_succ_of_lt (hob e he)
 ·intro S w _ e he
  obtain rfl := List.mem_singleton.1 he
  exact hmk S w
 ·show St _ _ (moF (upv vs σ.nx u) (σ.nx, X) :: OS (upv vs σ.nx u) fr cx ob) _ _
  rw [os_upv hB hob]
  exact hst
theorem seto_fnd : ∀ {ob : List (Nat × Od)} {o : Nat} {X Y : Od}, fndO ob o = some X -> fndO (seto ob o Y) o = some Y /\ delo (seto ob o Y) o = delo ob o
 | (o', X') :: r, o, X, Y, h => by
  unfold fndO at h
  unfold seto
  cases hb : Nat.beq o' o <;> rw [hb] at h
  ·obtain ⟨h1, h2⟩ := seto_fnd (ob := r) (Y := Y) h
   constructor
   ·simp only [cond_false]; unfold fndO; rw [hb]; exact h1
   ·simp only [cond_false]; unfold delo; rw [hb]; simp only [cond_false, h2]
  ·constructor
   ·simp only [cond_true]; unfold fndO; rw [hb]; rfl
   ·simp only [cond_true]; unfold delo; rw [hb]; rfl
theorem os_out {o : Nat} {X : Od} {Γ : List FF} (ho : fndO σ.ob o = some X) (h : St fr.we fr.Se (OS vs fr cx σ.ob) Γ w) : St fr.we fr.Se (moF vs (o, X) :: OS vs fr cx (delo σ.ob o)) Γ w := h.perm (os_perm ho)
theorem os_back {ob : List (Nat × Od)} {o : Nat} {X Y : Od} {Γ : List FF} (ho : fndO ob o = some X) (h : St fr.we fr.Se (moF vs (o, Y) :: OS vs fr cx (delo ob o)) Γ w) : St fr.we fr.Se (OS vs fr cx (seto ob o Y)) Γ w := by
 obtain ⟨h1, h2⟩ := seto_fnd (Y := Y) ho
 have := os_perm (vs := vs) (fr := fr) (cx := cx) h1
 rw [h2] at this
 exact h.perm this.symm
theorem os_out2 {o o2 : Nat} {X Y : Od} {Γ : List FF} (hne : Nat.beq o o2 = false) (ho : fndO σ.ob o = some X) (ho2 : fndO σ.ob o2 = some Y) (h : St fr.we fr.Se (OS vs fr cx σ.ob) Γ w) :
  St fr.we fr.Se (moF vs (o, X) :: moF vs (o2, Y) :: OS vs fr cx (delo (delo σ.ob o) o2)) Γ w := by
 have h1 : fndO (delo σ.ob o) o2 = some Y := by
  rw [fndO_delo (fun e => by subst e; simp at hne)]; exact ho2
 exact (h.perm (os_perm ho)).perm ((os_perm (vs := vs) (fr := fr) (cx := cx) h1).cons _)
theorem moU {o : Nat} {u : Value} {X : Od} : moF (upv vs o u) (o, X) = moF (fun _ => u) (0, X) := by
 cases X <;> simp only [moF, upv_new]
theorem nilE {S : Nat -> Prop} {w : World} : (eHd [.slice none 0 0]).p S 0 (Value.cells (.slice none 0 0)).toList w := ⟨_, rfl, rfl, rfl⟩
theorem co_make (hT : TTok P cf.tt) {k : Sg -> Option R} (hd : okPut cx d = true) (h : coMake cf cx σ d t x y k = some r) : MOK P cx ⟨d, .makeSlice t x y, ty, pos, aft, g⟩ σ k r := by
 unfold coMake at h
 split at h
 ·next s E B ht =>
  obtain ⟨hxy, h⟩ := grd_s h
  split at h
  ·next s' E1 B1 n hti hn =>
   obtain ⟨j, hj, h⟩ := ckN_s h
   obtain ⟨hb, h⟩ := ck_s h
   obtain ⟨xs, hxs, h⟩ := nm_s h
   have hty := ty_nil hT hti rfl
   refine ⟨_, h, Nat.le_succ _, fun fr vs env w hR => ?_⟩
   obtain ⟨hB, hst⟩ := hR
   obtain ⟨S0, _, hΓ⟩ := hst.ex
   have hx : ev env x = .int .i64 (j : Int) := by rw [(pd_i hn (gs_lko hΓ x)).1, hj]
   have hpos := (hT _ _ hti).2.1
   refine (og_make' (e := eHd [.slice none 0 0]) (z := 0) (xs := xs) (n := j) (tk_sl hT ht) hty hx ((same_ev hxy).symm.trans hx) hpos hb (fun _ _ => nilE) hxs w hst).mono ?_
   rintro v w' ⟨b, rfl, _, hs⟩
   have hlen : xs.length = j := by rw [hxs]; exact List.length_replicate
   have h1 := hs.closeF 0 rfl (by rw [hlen]; exact Nat.le_refl _) (mk_le hpos hb)
   rw [hlen] at h1
   refine rel_new2 (vs := vs) (mk := .mw) (u := tupW (.slice (some ⟨b, 0, none⟩) j j) [.slice none 0 0]) hB hd hB.o1 (fun _ => rfl) (fun S w => by simp only [hold, upv_new]; rfl) ?_
   rw [moU]
   refine St.grp.2 (St.pr (p := ([.slice none 0 0] : List Value).length = ([[]] : List (List s.D)).length) rfl ?_)
   have h2 := St.nilO (e := s.rep) (E := E1) h1
   exact h2.perm (List.Perm.swap ..)
  ·cases h
 ·cases h
theorem sl_one {ao : Option Addr} {n c : Nat} : (Value.slice ao n c).oneCell' = true /\ (Value.slice ao n c).cells = #[.slice ao n c] := ⟨rfl, rfl⟩
theorem mo_one {α : Type} {e : ERep α} {E : TypeId} {v : Value} {xs : List α} {S : Nat -> Prop} (h : (mO e E v xs).p S w) : v.oneCell' = true /\ v.cells = #[v] := by
 rcases mo_shape h with ⟨rfl, _⟩ | ⟨b, cap, rfl, _⟩ <;> exact sl_one
theorem co_lit (hT : TTok P cf.tt) (hL : ELok P cf.tt) {n : Nat} {ps : Array (Nat × Operand)} {k : Sg -> Option R} (hd : okPut cx d = true) (h : coLit cf cx σ d t n ps.toList k = some r) : MOK P cx ⟨d, .buildSlice t n ps, ty, pos, aft, g⟩ σ k r := by
 unfold coLit at h
 split at h
 ·next s E B x ht hps =>
  obtain ⟨hn, h⟩ := grd_s h
  have hn := beq_t hn
  subst hn
  split at h
  ·next o2 hxv =>
   split at h
   ·next s2 E1 ys ho2 =>
    obtain ⟨hse, h⟩ := cast_s h
    cases hse
    obtain ⟨bytes, zero, het⟩ := ty_el hT hL ht
    refine ⟨_, h, Nat.le_succ _, fun fr vs env w hR => ?_⟩
    obtain ⟨hB, hst⟩ := hR
    obtain ⟨S0, _, hΓ⟩ := hst.ex
    have hxe : ev env x = vs o2 := opv_hold hxv (gs_lko hΓ x)
    obtain ⟨q1, q2⟩ := mut_frame (os_out ho2 hst) (i := 0) (m := mO s.rep E1 (vs o2) ys) rfl fun S hp => mo_one hp
    have hfl : flat [(0, vs o2)] = [vs o2] := by rw [flat1, q2]
    refine (og_lit (e := eHd [vs o2]) (zs := [0]) (len := 1) (parts := ps.toList) (vs := [(0, vs o2)]) (tk_sl hT ht) het (Nat.zero_lt_one) rfl (by show 1 * 1 <= _; omega) (by rw [hps]; simp [hxe]) (fun S w ha => ⟨by rw [q2]; rfl, trivial⟩) (fun S w ha => ?_) w (os_out ho2 hst)).mono ?_
    ·rw [hfl]
     exact ⟨[vs o2], [], rfl, ⟨_, rfl, q1, rfl⟩, rfl⟩
    rintro v w' ⟨v', rfl, _, hs⟩
    refine rel_new2 (vs := vs) (mk := .mw) (u := tupW v [vs o2]) hB hd (fun e he => hB.o1 e (delo_mem e he)) (fun _ => rfl) (fun S w => by simp only [hold, upv_new]; rfl) ?_
    rw [moU]
    exact St.grp.2 (St.pr (p := ([vs o2] : List Value).length = ([ys] : List (List s.D)).length) rfl hs)
   ·cases h
  ·cases h
 ·cases h
theorem co_alloc (hT : TTok P cf.tt) {E0 : TypeId} {k : Sg -> Option R} (hd : okPut cx d = true) (h : coAlloc cf σ d E0 k = some r) : MOK P cx ⟨d, .alloc E0, ty, pos, aft, g⟩ σ k r := by
 unfold coAlloc at h
 split at h
 ·next s E B ht =>
  have hty := ty_nil hT ht rfl
  refine ⟨_, h, Nat.le_succ _, fun fr vs env w hR => ?_⟩
  obtain ⟨hB, hst⟩ := hR
  refine (og_allocM (e := (eHd [.slice none 0 0]).c) (z := 0) hty (fun S w => nilE (S := S) (w := w)) w hst).mono ?_
  rintro v w' ⟨b, rfl, _, hs⟩
  refine rel_new2 (vs := vs) (mk := .mw) (u := tupW (.pointer (some ⟨b, 0, none⟩)) [.slice none 0 0]) hB hd hB.o1 (fun _ => rfl) (fun S w => by simp only [hold, upv_new]; rfl) ?_
  rw [moU]
  refine St.grp.2 (St.pr (p := ([.slice none 0 0] : List Value).length = 1) rfl ?_)
  exact (St.nilO (e := s.rep) (E := E) (hs.toP 0 rfl)).perm (List.Perm.swap ..)
 ·cases h
theorem hv_one {hv : List Value} (h : hv.length = 1) : hv = [hv.headD undef] := by
 match hv, h with
 | [a], _ => rfl
theorem co_take (hT : TTok P cf.tt) {o : Nat} {k : Sg -> Option R} (hd : okPut cx d = true) (hxv : opv cx σ x = some (.mw o)) (h : coTake cf σ d t o k = some r) : MOK P cx ⟨d, .load t x, ty, pos, aft, g⟩ σ k r := by
 unfold coTake at h
 split at h
 ·next q E' B s E E0 xs ht ho =>
  obtain ⟨zero, hty, _⟩ := ty_of hT ht
  refine ⟨_, h, Nat.le_succ _, fun fr vs env w hR => ?_⟩
  obtain ⟨hB, hst⟩ := hR
  obtain ⟨S0, _, hΓ⟩ := hst.ex
  have hxe : ev env x = outW (vs o) := opv_hold hxv (gs_lko hΓ x)
  obtain ⟨hlen, h1⟩ := St.unpr (St.grp.1 (os_out ho hst))
  obtain ⟨b, hb, h2⟩ := h1.openP 0 rfl
  refine (og_of_oe (oe_loadM (e := (eHd (hvW (vs o))).c) (f := eHd (hvW (vs o))) (z' := 0) (up := id) 0 rfl (hxe.trans hb) (Sub.self (eHd (hvW (vs o))) 0) hty) w h2).mono ?_
  rintro u w' ⟨_, rfl, _, hs⟩
  obtain ⟨S1, _, hΓ1⟩ := hs.ex
  have hu := fV_hd hΓ1.1
  have hv1 := hv_one hlen
  have hue : u = (hvW (vs o)).headD undef := by
   rw [hv1] at hu
   simpa using hu.symm
  have h3 := (hs.weak (Δ := GS P vs env fr cx σ) fun S w h => h.2).toP 0 rfl
  rw [<- hb] at h3
  refine rel_new2 (vs := vs) (mk := .ow) (u := u) hB hd (fun e he => ?_) (fun _ => rfl) (fun S w => hold_ow S w) ?_
  ·obtain ⟨e', g1, g2⟩ := seto_mem ho e he
   rw [<- g2]; exact hB.o1 e' g1
  ·rw [mo_own, hue]
   have h4 : St fr.we fr.Se (mO s.rep E ((hvW (vs o)).headD undef) xs :: (moF vs (o, .ho E0) :: OS vs fr cx (delo σ.ob o))) (GS P vs env fr cx σ) w' := by
    have h5 : St fr.we fr.Se (mP (eHd (hvW (vs o))).c E0 (outW (vs o)) 0 :: mO s.rep E ((hvW (vs o)).headD undef) xs :: OS vs fr cx (delo σ.ob o)) (GS P vs env fr cx σ) w' := h3
    have h6 := St.pr (p := (hvW (vs o)).length = 1) hlen h5
    have h7 : St fr.we fr.Se ([mPr ((hvW (vs o)).length = 1), mP (eHd (hvW (vs o))).c E0 (outW (vs o)) 0] ++ mO s.rep E ((hvW (vs o)).headD undef) xs :: OS vs fr cx (delo σ.ob o)) (GS P vs env fr cx σ) w' := h6
    exact (St.grp.2 h7).perm (List.Perm.swap ..)
   have hp := os_perm (vs := vs) (fr := fr) (cx := cx) (seto_fnd (Y := .ho E0) ho).1
   rw [(seto_fnd (Y := .ho E0) ho).2] at hp
   exact h4.perm (hp.symm.cons _)
 ·cases h
structure RenOK (a b : Value) : Prop where
 out : outW b = outW a
 hv : ∀ (r : Nat) (v : Value), (hvW a)[r]? = some v -> (hvW b)[r]? = some v
theorem ren_hold {o n : Nat} (hr : RenOK (vs o) (vs n)) {dv : Dv} {v : Value} {S : Nat -> Prop} (h : (hold P vs dv v).p S w) : (hold P vs (ren1 o n dv) v).p S w := by
 cases dv with
 | mw p =>
  show (hold P vs (bif Nat.beq p o then .mw n else .mw p) v).p S w
  cases hb : Nat.beq p o
  ·exact h
  ·obtain rfl := beq_t hb
   exact (show v = outW (vs p) from h).trans hr.out.symm
 | mv p l m =>
  show (hold P vs (bif Nat.beq p o then .mv n l m else .mv p l m) v).p S w
  cases hb : Nat.beq p o
  ·exact h
  ·obtain rfl := beq_t hb
   simp only [hold, cond_true] at h ⊢
   rw [hr.out]; exact h
 | hp p j =>
  show (hold P vs (bif Nat.beq p o then .hp n j else .hp p j) v).p S w
  cases hb : Nat.beq p o
  ·exact h
  ·obtain rfl := beq_t hb
   simp only [hold, cond_true] at h ⊢
   rw [hr.out]; exact h
 | rw p r =>
  show (hold P vs (bif Nat.beq p o then .rw n r else .rw p r) v).p S w
  cases hb : Nat.beq p o
  ·exact h
  ·obtain rfl := beq_t hb
   exact hr.hv _ _ h
 | rp p t r j f =>
  show (hold P vs (bif Nat.beq p o then .rp n t r j f else .rp p t r j f) v).p S w
  cases hb : Nat.beq p o
  ·exact h
  ·obtain rfl := beq_t hb
   obtain ⟨h1, b, m, cap, h2, h3, h4⟩ := h
   exact ⟨h1, b, m, cap, hr.hv _ _ h2, h3, h4⟩
 | _ => exact h
theorem ren1_ref {o n p : Nat} {v : Dv} (h : refO (ren1 o n v) = some p) : refO v = some p \/ p = n := by
 cases v with
 | mw q =>
  have h : refO (bif Nat.beq q o then Dv.mw n else .mw q) = some p := h
  cases hb : Nat.beq q o <;> rw [hb] at h
  ·exact .inl h
  ·cases h; exact .inr rfl
 | mv q l m =>
  have h : refO (bif Nat.beq q o then Dv.mv n l m else .mv q l m) = some p := h
  cases hb : Nat.beq q o <;> rw [hb] at h
  ·exact .inl h
  ·cases h; exact .inr rfl
 | hp q j =>
  have h : refO (bif Nat.beq q o then Dv.hp n j else .hp q j) = some p := h
  cases hb : Nat.beq q o <;> rw [hb] at h
  ·exact .inl h
  ·cases h; exact .inr rfl
 | rw q r =>
  have h : refO (bif Nat.beq q o then Dv.rw n r else .rw q r) = some p := h
  cases hb : Nat.beq q o <;> rw [hb] at h
  ·exact .inl h
  ·cases h; exact .inr rfl
 | rp q t r j f =>
  have h : refO (bif Nat.beq q o then Dv.rp n t r j f else .rp q t r j f) = some p := h
  cases hb : Nat.beq q o <;> rw [hb] at h
  ·exact .inl h
  ·cases h; exact .inr rfl
 | _ => exact .inl h
theorem renR_mem {o n : Nat} : ∀ {rg : List (Nat × Nat × Dv)}, ∀ e ∈ renR o n rg, ∃ e' ∈ rg, e = (e'.1, e'.2.1, ren1 o n e'.2.2)
 | [], e, he => absurd he List.not_mem_nil
 | (t, i, v) :: rg, e, he => by
  rcases List.mem_cons.1 he with rfl | he
  ·exact ⟨_, List.mem_cons_self .., rfl⟩
  ·obtain ⟨e', h1, h2⟩ := renR_mem e he
   exact ⟨e', List.mem_cons_of_mem _ h1, h2⟩
theorem renM_mem {o n : Nat} : ∀ {rg : List (Nat × Nat × Dv)}, ∀ e ∈ renM o n rg, e ∈ rg \/ ∃ e' ∈ rg, ∃ p, e'.2.2 = .mw p /\ e = (e'.1, e'.2.1, bif Nat.beq p o then .mw n else .mw p)
 | [], e, he => absurd he List.not_mem_nil
 | (t, i, v) :: rg, e, he => by
  have ih : ∀ e ∈ renM o n rg, e ∈ (t, i, v) :: rg \/ ∃ e' ∈ (t, i, v) :: rg, ∃ p, e'.2.2 = .mw p /\ e = (e'.1, e'.2.1, bif Nat.beq p o then .mw n else .mw p) := fun e he => by
   rcases renM_mem e he with h | ⟨e', h1, p, h2, h3⟩
   ·exact .inl (List.mem_cons_of_mem _ h)
   ·exact .inr ⟨e', List.mem_cons_of_mem _ h1, p, h2, h3⟩
  cases v with
  | mw p =>
   rcases List.mem_cons.1 (show e ∈ (t, i, bif Nat.beq p o then Dv.mw n else .mw p) :: renM o n rg from he) with rfl | he
   ·exact .inr ⟨_, List.mem_cons_self .., p, rfl, rfl⟩
   ·exact ih e he
  | _ =>
   rcases List.mem_cons.1 he with rfl | he
   ·exact .inl (List.mem_cons_self ..)
   ·exact ih e he
theorem rel_ren {u v : Value} {o : Nat} {X : Od} {ob : List (Nat × Od)} {rg : List (Nat × Nat × Dv)} (hB : Bd cx σ) (hd : okPut cx d = true) (hob : ∀ e ∈ ob, e.1 < σ.nx)
  (hrg : ∀ e ∈ rg, ∃ e' ∈ putR σ.rg d [], e.1 = e'.1 /\ e.2.1 = e'.2.1 /\ (∀ p, refO e.2.2 = some p -> refO e'.2.2 = some p \/ p = σ.nx) /\ ∀ v S w, (hold P (upv vs σ.nx u) e'.2.2 v).p S w -> (hold P (upv vs σ.nx u) e.2.2 v).p S w)
  (hst : St fr.we fr.Se (moF (upv vs σ.nx u) (σ.nx, X) :: OS vs fr cx ob) (GS P vs env fr cx σ) w) : RelX P fr cx σ.nx vs ⟨σ.nx + 1, rg, (σ.nx, X) :: ob⟩ (put env d v) w := by
 obtain ⟨hb2, hs2⟩ : RelV P fr cx ⟨σ.nx + 1, putR σ.rg d [], (σ.nx, X) :: ob⟩ (upv vs σ.nx u) (put env d v) w := by
  refine relV_mk (σ' := ⟨σ.nx + 1, putR σ.rg d [], (σ.nx, X) :: ob⟩) (l := []) (vs := vs) (vs' := upv vs σ.nx u) (Γl := []) hB hd rfl (Nat.le_succ _) (fun o ho => upv_old ho) (fun _ he => absurd he List.not_mem_nil) ?_ (fun S w _ e he => absurd he List.not_mem_nil) ?_
  ·intro e he
   rcases List.mem_cons.1 he with rfl | he
   ·exact Nat.lt_succ_self _
   ·exact Nat.lt_succ_of_lt (hob e he)
  ·show St _ _ (moF (upv vs σ.nx u) (σ.nx, X) :: OS (upv vs σ.nx u) fr cx ob) _ _
   rw [os_upv hB hob]
   exact hst
 refine ⟨upv vs σ.nx u, fun o ho => upv_old ho, ⟨hb2.o1, hb2.o2, fun e he p hp => ?_, hb2.r2⟩, hs2.weak fun S w h => All.append (all_mem.2 fun f hf => ?_) (All.right h)⟩
 ·obtain ⟨e', h1, _, _, h2, _⟩ := hrg e he
  rcases h2 p hp with h | rfl
  ·exact hb2.r1 e' h1 p h
  ·exact Nat.lt_succ_self _
 ·obtain ⟨e, he, rfl⟩ := List.mem_map.1 hf
  obtain ⟨e', h1, h2, h3, _, h4⟩ := hrg e he
  have h5 := rs_get (All.left h) (t := e'.1) (i := e'.2.1) (d := e'.2.2) h1
  rw [h2, h3]
  exact holdC_map h5 fun u hu => h4 u S w hu
theorem hrg_ren {u : Value} {o : Nat} (hr : RenOK (upv vs σ.nx u o) (upv vs σ.nx u σ.nx)) : ∀ e ∈ renR o σ.nx σ.rg, ∃ e' ∈ putR σ.rg none [], e.1 = e'.1 /\ e.2.1 = e'.2.1 /\ (∀ p, refO e.2.2 = some p -> refO e'.2.2 = some p \/ p = σ.nx) /\ ∀ v S w, (hold P (upv vs σ.nx u) e'.2.2 v).p S w -> (hold P (upv vs σ.nx u) e.2.2 v).p S w := by
 intro e he
 obtain ⟨e', h1, rfl⟩ := renR_mem e he
 exact ⟨e', h1, rfl, rfl, fun p hp => ren1_ref hp, fun v S w h => ren_hold hr h⟩
theorem hrg_renM {u : Value} {o : Nat} {rg : List (Nat × Nat × Dv)} (hr : outW (upv vs σ.nx u σ.nx) = outW (upv vs σ.nx u o)) : ∀ e ∈ renM o σ.nx rg, ∃ e' ∈ rg, e.1 = e'.1 /\ e.2.1 = e'.2.1 /\ (∀ p, refO e.2.2 = some p -> refO e'.2.2 = some p \/ p = σ.nx) /\ ∀ v S w, (hold P (upv vs σ.nx u) e'.2.2 v).p S w -> (hold P (upv vs σ.nx u) e.2.2 v).p S w := by
 intro e he
 rcases renM_mem e he with h | ⟨e', h1, p, h2, rfl⟩
 ·exact ⟨e, h, rfl, rfl, fun p hp => .inl hp, fun v S w h => h⟩
 ·refine ⟨e', h1, rfl, rfl, fun q hq => ?_, fun v S w h => ?_⟩
  ·rw [h2]
   cases hb : Nat.beq p o
   ·simp only [hb, cond_false] at hq; exact .inl hq
   ·simp only [hb, cond_true] at hq; cases hq; exact .inr rfl
  ·rw [h2] at h
   have h : v = outW (upv vs σ.nx u p) := h
   cases hb : Nat.beq p o
   ·exact h
   ·have hp := beq_t hb
    subst hp
    exact h.trans hr.symm
end
end Go.Proofs.YtmggkmchbdanfaaGreat
end

section
set_option linter.unusedVariables false
set_option linter.unusedSimpArgs false
namespace Go.Proofs.YtmggkmchbdanfaaGreat
section
variable {P : Program} {cf : Cf} {fr : Fr} {cx σ : Sg} {vs vs' : Nat -> Value} {env : Env} {w : World} {R : Type} {r : R}
 {d : Option Tmp} {ty t yt : TypeId} {pos : String} {aft : Array Edge} {g : Option (Nat × Bool)} {x y : Operand}
theorem rowAt_some {α : Type} {xss : List (List α)} {r : Nat} (h : r < xss.length) : xss[r]? = some (rowAt xss r) := by
 unfold rowAt
 rw [List.getD_eq_getElem?_getD, List.getElem?_eq_getElem h]; rfl
theorem mt_out {o : Nat} {s : Ty} {E E1 : TypeId} {xss : List (List s.D)} {ix : List Nat} {ms : List MF} {Γ : List FF} (h : St fr.we fr.Se (moF vs (o, .mat s E E1 xss ix) :: ms) Γ w) :
  (hvW (vs o)).length = xss.length /\ St fr.we fr.Se ((mO (eHd (hvW (vs o))) E (outW (vs o)) ix :: mRows s.rep E1 (hvW (vs o)) xss) ++ ms) Γ w := St.unpr (St.grp.1 h)
theorem mt_in {u : Value} {s : Ty} {E E1 : TypeId} {xss : List (List s.D)} {ix : List Nat} {ms : List MF} {Γ : List FF} (hl : (hvW u).length = xss.length) (h : St fr.we fr.Se ((mO (eHd (hvW u)) E (outW u) ix :: mRows s.rep E1 (hvW u) xss) ++ ms) Γ w) :
  St fr.we fr.Se (mMt s.rep E E1 u xss ix :: ms) Γ w := St.grp.2 (St.pr hl h)
theorem cs_rp {k : Sg -> Option R} {ti : TI} (hT : TTok P cf.tt) (hti : tyA cf t = some ti) {o p j : Nat} {e : Ty} {f : Fl e.D} (hx : opv cx σ x = some (.rp o e p j f)) (h : coStore σ ti.ty (opv cx σ x) (opv cx σ y) k = some r) :
  MOK P cx ⟨none, .store t x y, ty, pos, aft, g⟩ σ k r := by
 obtain ⟨zero, hty, _⟩ := ty_of hT hti
 rw [hx] at h
 simp only [coStore] at h
 split at h
 ·next s' E E1 xss ix hsame ho _ =>
  obtain ⟨hss, h1⟩ := cast_s h
  cases hss
  obtain ⟨q, h2, hq⟩ := asO_s h1
  obtain ⟨zss, hz, h⟩ := nm_s h2
  obtain ⟨hsame⟩ := hsame
  refine ⟨_, h, Nat.le_refl _, fun fr vs env w hR => ?_⟩
  obtain ⟨hB, hst⟩ := hR
  obtain ⟨S0, _, hΓ⟩ := hst.ex
  obtain ⟨hok, b, m, cap, hv, hj, hxe⟩ := opv_hold hx (gs_lko hΓ x)
  have hop := os_out ho hst
  obtain ⟨hn, hp⟩ : m = (rowAt (α := e.D) xss p).length /\ p < xss.length := mut_frame hop (i := 0) rfl fun S hp => ⟨own_pos (mt_row (show (mMt e.rep E E1 (vs o) xss ix).p S w from hp) hv).1 rfl, (mt_row (show (mMt e.rep E E1 (vs o) xss ix).p S w from hp) hv).2⟩
  obtain ⟨hl, hg⟩ := mt_out hop
  have hi := mat_row (e := e.rep) (E := E) (E1 := E1) (v := outW (vs o)) (ix := ix) hv (rowAt_some (α := e.D) hp) (OS vs fr cx (delo σ.ob o))
  obtain ⟨b', cap', hv', hc1, hc2, hs⟩ := hg.openO (p + 1) hi (by omega)
  cases hv'
  rw [<- hsame] at hty
  have hsub := (Sub.rowT0 e.rep cap (rowAt (α := e.D) xss p) j ((rowAt (α := e.D) xss p).getD j e.z) (getD_some e.z (by omega))).comp (hok ((rowAt (α := e.D) xss p).getD j e.z))
  refine (og_storeM (f := f.f.rep) (y' := q) (p + 1) (get_set hi) hxe rfl hsub hty (fun S w ha => hq P vs env S w (gs_lko ha y)) w hs).mono ?_
  rintro v w' ⟨_, rfl, _, hs'⟩
  refine rel_set (vs := vs) hB ho (os_back ho ?_)
  have hlen : (List.set (rowAt (α := e.D) xss p) j (f.set q ((rowAt (α := e.D) xss p).getD j e.z))).length = (rowAt (α := e.D) xss p).length := List.length_set ..
  have hs2 := hs'.closeF (p + 1) (get_set (get_set hi)) (by rw [hlen]; exact hc1) hc2
  rw [set_set, set_set, hlen, mat_row_set hv hp hl] at hs2
  rw [hz]
  exact mt_in (by rw [show (rplc (α := e.D) xss p _).length = xss.length from List.length_set ..]; exact hl) hs2
 ·cases h
theorem cs_hr {k : Sg -> Option R} {ti : TI} (hT : TTok P cf.tt) (hti : tyA cf t = some ti) {o j o' p : Nat} (hx : opv cx σ x = some (.hp o j)) (hy : opv cx σ y = some (.rw o' p)) (h : coStore σ ti.ty (opv cx σ x) (opv cx σ y) k = some r) :
  MOK P cx ⟨none, .store t x y, ty, pos, aft, g⟩ σ k r := by
 obtain ⟨zero, hty, _⟩ := ty_of hT hti
 rw [hx, hy] at h
 simp only [coStore] at h
 obtain ⟨ho', h⟩ := grd_s h
 obtain rfl := beq_t ho'
 split at h
 ·next s' E E1 xss ix q ho htq =>
  obtain ⟨iz, hz, h⟩ := nm_s h
  refine ⟨_, h, Nat.le_refl _, fun fr vs env w hR => ?_⟩
  obtain ⟨hB, hst⟩ := hR
  obtain ⟨S0, _, hΓ⟩ := hst.ex
  obtain ⟨b, m, cap, hv, hj, hxe⟩ := opv_hold hx (gs_lko hΓ x)
  have hye : (hvW (vs o'))[p]? = some (ev env y) := opv_hold hy (gs_lko hΓ y)
  have hop := os_out ho hst
  obtain ⟨hn, hone⟩ : m = ix.length /\ (ev env y).oneCell' = true := mut_frame hop (i := 0) rfl fun S hp => ⟨own_pos (mt_s (show (mMt s'.rep E E1 (vs o') xss ix).p S w from hp)).2.1 hv, (mo_one (mt_row (show (mMt s'.rep E E1 (vs o') xss ix).p S w from hp) hye).1).1⟩
  obtain ⟨hl, hg⟩ := mt_out hop
  obtain ⟨b', cap', hv', hc1, hc2, hs⟩ := hg.openO 0 rfl (by omega)
  rw [hv] at hv'
  cases hv'
  have hsub := Sub.rowT0 (eHd (hvW (vs o'))) cap ix j (ix.getD j 0) (getD_some 0 (by omega))
  rw [htq] at hty
  refine (og_storeM (f := eHd (hvW (vs o'))) (y' := p) 0 rfl hxe rfl hsub hty (fun S w ha => ?_) w hs).mono ?_
  ·exact hd_fV (opv_hold hy (gs_lko ha y)) hone
  rintro v w' ⟨_, rfl, _, hs'⟩
  refine rel_set (vs := vs) hB ho (os_back ho ?_)
  have hlen : (ix.set j p).length = ix.length := List.length_set ..
  have hs2 := hs'.closeF 0 rfl (by rw [hlen]; exact hc1) hc2
  rw [hlen, <- hv] at hs2
  rw [hz]
  exact mt_in hl hs2
 ·cases h
theorem rn_more {u : Value} {o : Nat} {hv : List Value} (hu : hvW u = hvW (vs o) ++ hv) (ho : outW u = outW (vs o)) (hlt : o < σ.nx) : RenOK (upv vs σ.nx u o) (upv vs σ.nx u σ.nx) := by
 rw [upv_old hlt, upv_new]
 refine ⟨ho, fun r v h => ?_⟩
 rw [hu, List.getElem?_append_left (List.getElem?_eq_some_iff.1 h).1]
 exact h
theorem fnd_lt {o : Nat} {X : Od} (hB : Bd cx σ) (h : fndO σ.ob o = some X) : o < σ.nx := by
 obtain ⟨i, h1, _⟩ := fndO_some h
 exact hB.o1 _ (List.mem_of_getElem? h1)
theorem delo2_lt (hB : Bd cx σ) {o p : Nat} : ∀ e ∈ delo (delo σ.ob o) p, e.1 < σ.nx := fun e he => hB.o1 e (delo_mem e (delo_mem e he))
theorem cs_ho {k : Sg -> Option R} {ti : TI} (hT : TTok P cf.tt) (hti : tyA cf t = some ti) {o j o2 : Nat} (hx : opv cx σ x = some (.hp o j)) (hy : opv cx σ y = some (.ow o2)) (h : coStore σ ti.ty (opv cx σ x) (opv cx σ y) k = some r) :
  MOK P cx ⟨none, .store t x y, ty, pos, aft, g⟩ σ k r := by
 obtain ⟨zero, hty, _⟩ := ty_of hT hti
 rw [hx, hy] at h
 simp only [coStore] at h
 obtain ⟨hne, h⟩ := grd_s h
 rw [Bool.not_eq_true'] at hne
 split at h
 ·next s' E E1 xss ix s2 E2 ys q ho ho2 htq =>
  obtain ⟨hE, h0⟩ := grd_s h
  obtain rfl := beq_t hE
  obtain ⟨hss, h1⟩ := cast_s h0
  cases hss
  obtain ⟨zss, hz, h2⟩ := nm_s h1
  obtain ⟨iz, hi, h3⟩ := nm_s h2
  refine ⟨_, h3, Nat.le_succ _, fun fr vs env w hR => ?_⟩
  obtain ⟨hB, hst⟩ := hR
  obtain ⟨S0, _, hΓ⟩ := hst.ex
  obtain ⟨b, m, cap, hv, hj, hxe⟩ := opv_hold hx (gs_lko hΓ x)
  have hye : ev env y = vs o2 := opv_hold hy (gs_lko hΓ y)
  have hop := os_out2 hne ho ho2 hst
  have hn : m = ix.length := mut_frame hop (i := 0) rfl fun S hp => own_pos (mt_s (show (mMt s'.rep E E1 (vs o) xss ix).p S w from hp)).2.1 hv
  obtain ⟨hone, _⟩ : (vs o2).oneCell' = true /\ _ := mut_frame hop (i := 1) (m := mO s'.rep E1 (vs o2) ys) rfl fun S hp => mo_one hp
  have hl := (mt_out hop).1
  have hg : St fr.we fr.Se ((mO (eHd (hvW (vs o) ++ [vs o2])) E (outW (vs o)) ix :: mRows s'.rep E1 (hvW (vs o) ++ [vs o2]) (xss ++ [ys])) ++ OS vs fr cx (delo (delo σ.ob o) o2)) (GS P vs env fr cx σ) w :=
   St.grp.1 (St.adopt hl (St.grp.2 (mt_out hop).2))
  obtain ⟨b', cap', hv', hc1, hc2, hs⟩ := hg.openO 0 rfl (by omega)
  rw [hv] at hv'
  cases hv'
  have hsub := Sub.rowT0 (eHd (hvW (vs o) ++ [vs o2])) cap ix j (ix.getD j 0) (getD_some 0 (by omega))
  rw [htq] at hty
  refine (og_storeM (f := eHd (hvW (vs o) ++ [vs o2])) (y' := xss.length) 0 rfl hxe hye hsub hty (fun S w ha => hd_fV (by rw [<- hl]; simp) hone) w hs).mono ?_
  rintro v w' ⟨_, rfl, _, hs'⟩
  have hlen : (ix.set j xss.length).length = ix.length := List.length_set ..
  have hs2 := hs'.closeF 0 rfl (by rw [hlen]; exact hc1) hc2
  rw [hlen, <- hv] at hs2
  refine rel_ren (o := o) (u := tupW (outW (vs o)) (hvW (vs o) ++ [vs o2])) hB rfl (delo2_lt hB) (hrg_ren (rn_more rfl rfl (fnd_lt hB ho))) ?_
  rw [moU, hi, hz]
  refine mt_in (u := tupW (outW (vs o)) (hvW (vs o) ++ [vs o2])) (by show (hvW (vs o) ++ [vs o2]).length = (xss ++ [ys]).length; simp [hl]) hs2
 ·cases h
theorem cs_bo {k : Sg -> Option R} {ti : TI} (hT : TTok P cf.tt) (hti : tyA cf t = some ti) {o o2 : Nat} (hx : opv cx σ x = some (.mw o)) (hy : opv cx σ y = some (.ow o2)) (h : coStore σ ti.ty (opv cx σ x) (opv cx σ y) k = some r) :
  MOK P cx ⟨none, .store t x y, ty, pos, aft, g⟩ σ k r := by
 obtain ⟨zero, hty, _⟩ := ty_of hT hti
 rw [hx, hy] at h
 simp only [coStore] at h
 obtain ⟨hne, h⟩ := grd_s h
 rw [Bool.not_eq_true'] at hne
 split at h
 ·next E0 s2 E2 ys q ho ho2 htq =>
  refine ⟨_, h, Nat.le_succ _, fun fr vs env w hR => ?_⟩
  obtain ⟨hB, hst⟩ := hR
  obtain ⟨S0, _, hΓ⟩ := hst.ex
  have hxe : ev env x = outW (vs o) := opv_hold hx (gs_lko hΓ x)
  have hye : ev env y = vs o2 := opv_hold hy (gs_lko hΓ y)
  have hop := os_out2 hne ho ho2 hst
  obtain ⟨hone, _⟩ : (vs o2).oneCell' = true /\ _ := mut_frame hop (i := 1) (m := mO s2.rep E2 (vs o2) ys) rfl fun S hp => mo_one hp
  obtain ⟨hl, h1⟩ := St.unpr (St.grp.1 hop)
  have h1 : St fr.we fr.Se (mP (eHd (hvW (vs o))).c E0 (outW (vs o)) 0 :: mO s2.rep E2 (vs o2) ys :: OS vs fr cx (delo (delo σ.ob o) o2)) (GS P vs env fr cx σ) w := h1
  obtain ⟨b, hb, h2⟩ := h1.openP 0 rfl
  have hv1 := hv_one hl
  -- the cell may hold either header
  have h3 := h2.conv (i := 0) (m := mB (eHd (hvW (vs o))).c E0 b 0) (m' := mB (eHd (hvW (vs o) ++ [vs o2])).c E0 b 0) rfl rfl fun S hp => by
   obtain ⟨cs, g1, u, g2, g3, g4⟩ := hp
   exact ⟨cs, g1, u, by rw [List.getElem?_append_left (List.getElem?_eq_some_iff.1 g2).1]; exact g2, g3, g4⟩
  rw [htq] at hty
  refine (og_storeM (e := (eHd (hvW (vs o) ++ [vs o2])).c) (f := eHd (hvW (vs o) ++ [vs o2])) (z' := 0) (y' := 1) (up := id) 0 rfl (hxe.trans hb) hye (Sub.self (eHd (hvW (vs o) ++ [vs o2])) 0) hty (fun S w ha => hd_fV (by rw [hv1]; rfl) hone) w h3).mono ?_
  rintro v w' ⟨_, rfl, _, hs'⟩
  have h4 : St fr.we fr.Se (mB (eHd (hvW (vs o) ++ [vs o2])).c E0 b 1 :: mO s2.rep E2 (vs o2) ys :: OS vs fr cx (delo (delo σ.ob o) o2)) (GS P vs env fr cx σ) w' := hs'
  have h5 := h4.conv (i := 0) (m := mB (eHd (hvW (vs o) ++ [vs o2])).c E0 b 1) (m' := mB (eHd [vs o2]).c E0 b 0) rfl rfl fun S hp => by
   obtain ⟨cs, g1, u, g2, g3, g4⟩ := hp
   refine ⟨cs, g1, u, ?_, g3, g4⟩
   rw [hv1] at g2
   exact g2
  have h6 := h5.toP 0 rfl
  rw [<- hb] at h6
  have h7 : St fr.we fr.Se (mP (eHd [vs o2]).c E0 (outW (vs o)) 0 :: mO s2.rep E2 (vs o2) ys :: OS vs fr cx (delo (delo σ.ob o) o2)) (GS P vs env fr cx σ) w' := h6
  refine rel_ren (o := o) (u := tupW (outW (vs o)) [vs o2]) hB rfl (delo2_lt hB) (hrg_renM (by rw [upv_new, upv_old (fnd_lt hB ho)]; rfl)) ?_
  ·rw [moU]
   exact St.grp.2 (St.pr (p := ([vs o2] : List Value).length = 1) rfl h7)
 ·cases h
theorem co_store (hT : TTok P cf.tt) {k : Sg -> Option R} {ti : TI} (hti : tyA cf t = some ti) (h : coStore σ ti.ty (opv cx σ x) (opv cx σ y) k = some r) : MOK P cx ⟨none, .store t x y, ty, pos, aft, g⟩ σ k r := by
 have h0 := h
 unfold coStore at h
 split at h
 ·next o e r j f hx => exact cs_rp hT hti hx h0
 ·next o j o' r hx hy => exact cs_hr hT hti hx hy h0
 ·next o j o2 hx hy => exact cs_ho hT hti hx hy h0
 ·next o o2 hx hy => exact cs_bo hT hti hx hy h0
 ·cases h
theorem delo_comm : ∀ {ob : List (Nat × Od)} {o p : Nat}, o ≠ p -> delo (delo ob o) p = delo (delo ob p) o
 | [], _, _, _ => rfl
 | (q, X) :: r, o, p, h => by
  have ih := delo_comm (ob := r) h
  cases h1 : Nat.beq q o
  ·cases h2 : Nat.beq q p
   ·simp only [delo, h1, h2, cond_false]; rw [ih]
   ·simp only [delo, h1, h2, cond_false, cond_true]
  ·cases h2 : Nat.beq q p
   ·simp only [delo, h1, h2, cond_false, cond_true]
   ·have := (beq_t h1).symm.trans (beq_t h2)
    exact absurd this h
theorem elems_hdR {S : Nat -> Prop} {w : World} {hv hv' : List Value} : ∀ {ix : List Nat} {cs : List Value}, Elems (eHd hv') S ix cs w -> Elems (eHd (hv ++ hv')) S (ix.map (hv.length + ·)) cs w
 | [], _, h => h
 | r :: ix, cs, ⟨c, q, h1, ⟨u, h2, h3, h4⟩, h5⟩ => ⟨c, q, h1, ⟨u, by show (hv ++ hv')[hv.length + r]? = some u; rw [List.getElem?_append_right (Nat.le_add_right _ _), Nat.add_sub_cancel_left]; exact h2, h3, h4⟩, elems_hdR h5⟩
theorem mRows_app {α : Type} {e : ERep α} {E : TypeId} : ∀ {hv hv' : List Value} {xss yss : List (List α)}, hv.length = xss.length -> mRows e E (hv ++ hv') (xss ++ yss) = mRows e E hv xss ++ mRows e E hv' yss
 | [], _, [], _, _ => rfl
 | u :: hv, hv', xs :: xss, yss, h => by
  show mO e E u xs :: mRows e E (hv ++ hv') (xss ++ yss) = mO e E u xs :: (mRows e E hv xss ++ mRows e E hv' yss)
  rw [mRows_app (by simpa using h)]
 | [], _, _ :: _, _, h => by cases h
 | _ :: _, _, [], _, h => by cases h
theorem co_app (hT : TTok P cf.tt) {ags : Array Operand} {ts : Array TypeId} {k : Sg -> Option R} (hd : okPut cx d = true) (h : coApp cf cx σ d ags.toList ts.toList k = some r) :
  MOK P cx ⟨d, .call ⟨.builtin .append, ags, ts⟩, ty, pos, aft, g⟩ σ k r := by
 unfold coApp at h
 split at h
 ·next _ _ x y t t' hags hts =>
  obtain rfl : ags = #[x, y] := by cases ags; simp_all
  obtain rfl : ts = #[t, t'] := by cases ts; simp_all
  split at h
  ·next s E B o p ht hx hy =>
   obtain ⟨hg, h6⟩ := grd_s h
   rw [Bool.and_eq_true] at hg
   obtain ⟨htt, hne⟩ := hg
   obtain rfl := beq_t htt
   rw [Bool.not_eq_true'] at hne
   clear h
   split at h6
   ·next q1 q2 B1 s1 E1 F1 xss ix s2 E2 F2 yss iy hti ho hp =>
    obtain ⟨hg, h1⟩ := grd_s h6
    simp only [Bool.and_eq_true] at hg
    obtain ⟨hE1, hE2, hF⟩ := hg
    have hE1 := beq_t hE1
    have hE2 := beq_t hE2
    have hF := beq_t hF
    subst hE1
    subst hE2
    subst hF
    obtain ⟨hss, h2⟩ := cast_s h1
    cases hss
    obtain ⟨hb, h3⟩ := ck_s h2
    obtain ⟨zss, hz, h4⟩ := nm_s h3
    obtain ⟨iz, hi, h5⟩ := nm_s h4
    have hty := ty_nil hT hti rfl
    have hpos := (hT _ _ hti).2.1
    refine ⟨_, h5, Nat.le_succ _, fun fr vs env w hR => ?_⟩
    obtain ⟨hB, hst⟩ := hR
    obtain ⟨S0, _, hΓ⟩ := hst.ex
    have hxe : ev env x = outW (vs o) := opv_hold hx (gs_lko hΓ x)
    have hye : ev env y = outW (vs p) := opv_hold hy (gs_lko hΓ y)
    have hop := os_out2 hne ho hp hst
    obtain ⟨hl1, hg1⟩ := mt_out hop
    have hop2 : St fr.we fr.Se (moF vs (p, .mat s1 E2 F1 yss iy) :: ((mO (eHd (hvW (vs o))) E2 (outW (vs o)) ix :: mRows s1.rep F1 (hvW (vs o)) xss) ++ OS vs fr cx (delo (delo σ.ob o) p))) (GS P vs env fr cx σ) w := hg1.perm List.perm_middle
    obtain ⟨hl2, hg2⟩ := mt_out hop2
    -- the headers of both
    have hg3 : St fr.we fr.Se (mO (eHd (hvW (vs o))) E2 (outW (vs o)) ix :: mO (eHd (hvW (vs p))) E2 (outW (vs p)) iy :: (mRows s1.rep F1 (hvW (vs o)) xss ++ mRows s1.rep F1 (hvW (vs p)) yss ++ OS vs fr cx (delo (delo σ.ob o) p))) (GS P vs env fr cx σ) w := by
     refine hg2.perm ?_
     simp only [List.cons_append, List.append_assoc]
     refine (List.Perm.cons _ List.perm_middle).trans ((List.Perm.swap ..).trans ?_)
     refine List.Perm.cons _ (List.Perm.cons _ ?_)
     exact (List.perm_append_comm_assoc ..)
    have hg4 := hg3.conv (i := 0) (m := mO (eHd (hvW (vs o))) E2 (outW (vs o)) ix) (m' := mO (eHd (hvW (vs o) ++ hvW (vs p))) E2 (outW (vs o)) ix) rfl rfl fun S hq => mO_more hq
    have bnd : ∀ m, m * B1 <= 140737488355328 -> m <= 9223372036854775807 := fun m hm => by
     have hpos : 0 < B1 := hpos
     have := Nat.le_mul_of_pos_right m hpos
     omega
    have hlen : (iy.map (List.length xss + ·)).length = iy.length := List.length_map _
    refine (og_appendQ (e := eHd (hvW (vs o) ++ hvW (vs p))) (ys := iy.map (List.length xss + ·)) 0 (tk_sl hT ht) hty rfl Nat.zero_lt_one rfl hxe hye (fun S w hM ha => ?_) (bnd _ (by rw [hlen]; exact hb)) (by rw [hlen]; exact hb) w hg4).mono ?_
    ·have hm : (mO (eHd (hvW (vs p))) E2 (outW (vs p)) iy).p S w := hM.2.1
     have hm2 : (mO (eHd (hvW (vs o) ++ hvW (vs p))) E2 (outW (vs p)) (iy.map (List.length xss + ·))).p S w := by
      obtain ⟨cs, a1, a2⟩ := hm
      refine ⟨cs, by rw [hlen]; exact a1, ?_⟩
      rw [<- hl1]
      exact elems_hdR a2
     rcases mo_shape hm2 with ⟨hv, hnil⟩ | ⟨b, cap, hv, hc1, hc2⟩
     ·rw [hv, hnil]
      exact ⟨none, 0, rfl, Nat.le_refl _, Nat.zero_le _, .inl rfl⟩
     ·have h6 := mo_view hm2 hv (l := 0) (n := (iy.map (List.length xss + ·)).length) (c := cap) (by omega) hc1 hc2
      rw [List.drop_zero, List.take_length] at h6
      rw [hv]
      simpa using h6
    rintro v w' ⟨v', rfl, _, hs⟩
    refine rel_new2 (vs := vs) (mk := .mw) (u := tupW v (hvW (vs o) ++ hvW (vs p))) hB hd (delo2_lt hB) (fun _ => rfl) (fun S w => by simp only [hold, upv_new]; rfl) ?_
    rw [moU, hz, hi]
    have h7 : St fr.we fr.Se (mO (eHd (hvW (vs o) ++ hvW (vs p))) E2 v (ix ++ iy.map (List.length xss + ·)) :: mO (eHd (hvW (vs p))) E2 (outW (vs p)) iy :: (mRows s1.rep F1 (hvW (vs o)) xss ++ mRows s1.rep F1 (hvW (vs p)) yss ++ OS vs fr cx (delo (delo σ.ob o) p))) (GS P vs env fr cx σ) w' := hs
    have h8 := St.drop (i := 1) h7
    refine mt_in (u := tupW v (hvW (vs o) ++ hvW (vs p))) (by show (hvW (vs o) ++ hvW (vs p)).length = (xss ++ yss).length; simp [hl1, hl2]) ?_
    show St _ _ ((mO (eHd (hvW (vs o) ++ hvW (vs p))) E2 v _ :: mRows s1.rep F1 (hvW (vs o) ++ hvW (vs p)) (xss ++ yss)) ++ _) _ _
    rw [mRows_app hl1]
    exact h8
   ·cases h6
  ·cases h
 ·cases h
theorem co_strike (hX : XOK P cf) {s : MSig} {f : Operand} {ags : Array Operand} {ts : Array TypeId} {k : Sg -> Option R} (hd : okPut cx d = true) (hf : opv cx σ f = some (.fn s.f [])) (hs : s ∈ cf.ms) (h : coStrike cx σ d s ags.toList k = some r) :
  MOK P cx ⟨d, .call ⟨.value f, ags, ts⟩, ty, pos, aft, g⟩ σ k r := by
 obtain ⟨hb, hok⟩ := hX.ms s hs
 unfold coStrike at h
 split at h
 ·next _ x a p y hags =>
  obtain rfl : ags = #[x, a, p, y] := by cases ags; simp_all
  split at h
  ·next o r0 av pv o' lo n hx ha hp hy =>
   obtain ⟨ho', h6⟩ := grd_s h
   obtain rfl := beq_t ho'
   clear h
   split at h6
   ·next s1 E E1 xss ix ho =>
    obtain ⟨hg, h1⟩ := grd_s h6
    rw [Bool.and_eq_true] at hg
    have hE := beq_t hg.1
    have hE1 := beq_t hg.2
    obtain ⟨hss, h2⟩ := cast_s h1
    cases hss
    obtain ⟨zss, hz, h3⟩ := bd_s h2
    refine ⟨_, h3, Nat.le_succ _, fun fr vs env w hR => ?_⟩
    obtain ⟨hB, hst⟩ := hR
    obtain ⟨S0, _, hΓ⟩ := hst.ex
    have hxe : (hvW (vs o))[r0]? = some (ev env x) := opv_hold hx (gs_lko hΓ x)
    have hae := pd_i ha (gs_lko hΓ a)
    have hpe := pd_i hp (gs_lko hΓ p)
    have hye : MvV (outW (vs o)) lo n (ev env y) := opv_hold hy (gs_lko hΓ y)
    obtain ⟨cvs, hv, hcl, hca⟩ := opv_hold hf (gs_lko hΓ f)
    obtain rfl : cvs = [] := List.length_eq_zero_iff.1 hcl
    have hop := os_out ho hst
    rw [hE, hE1] at hop
    have hcall := hok xss ix r0 av pv lo n zss hz (vs o) (ev env x) (ev env y) hxe hye hae.2 hpe.2 fr.we fr.Se _ _ w hop
    have hrun : (execOp (ev env) ⟨d, .call ⟨.value f, #[x, a, p, y], ts⟩, ty, pos, aft, g⟩).run P w = .ok (.enter s.f #[ev env x, .int .i64 av, .int .i64 pv, ev env y]) w := by
     simp [execOp, resolve, hv, Deferred.ofValue, invoke, run_callFunc hb, hae.1, hpe.1]
    unfold OpR
    rw [hrun]
    refine hcall.mono ?_
    rintro e w' ⟨v, u', rfl, hu, hs'⟩
    refine ⟨v, rfl, rel_ren (o := o) (u := u') hB hd (fun e he => hB.o1 e (delo_mem e he)) (hrg_renM (by rw [upv_new, upv_old (fnd_lt hB ho)]; exact hu)) ?_⟩
    rw [moU]
    show St _ _ (mMt s.t.rep E E1 u' zss ix :: _) _ _
    rw [hE, hE1]
    exact hs'
   ·cases h6
  ·cases h
 ·cases h
theorem renY_mem {o n : Nat} : ∀ {rg : List (Nat × Nat × Dv)}, ∀ e ∈ renY o n rg, e ∈ rg \/ ∃ e' ∈ rg, ∃ p, e'.2.2 = .yd p /\ e = (e'.1, e'.2.1, bif Nat.beq p o then .yd n else .yd p)
 | [], e, he => absurd he List.not_mem_nil
 | (t, i, v) :: rg, e, he => by
  have ih : ∀ e ∈ renY o n rg, e ∈ (t, i, v) :: rg \/ ∃ e' ∈ (t, i, v) :: rg, ∃ p, e'.2.2 = .yd p /\ e = (e'.1, e'.2.1, bif Nat.beq p o then .yd n else .yd p) := fun e he => by
   rcases renY_mem e he with h | ⟨e', h1, p, h2, h3⟩
   ·exact .inl (List.mem_cons_of_mem _ h)
   ·exact .inr ⟨e', List.mem_cons_of_mem _ h1, p, h2, h3⟩
  cases v with
  | yd p =>
   rcases List.mem_cons.1 (show e ∈ (t, i, bif Nat.beq p o then Dv.yd n else .yd p) :: renY o n rg from he) with rfl | he
   ·exact .inr ⟨_, List.mem_cons_self .., p, rfl, rfl⟩
   ·exact ih e he
  | _ =>
   rcases List.mem_cons.1 he with rfl | he
   ·exact .inl (List.mem_cons_self ..)
   ·exact ih e he
theorem co_yield (hX : XOK P cf) {o : Nat} {f : Operand} {ags : Array Operand} {ts : Array TypeId} {k : Sg -> Option R} (hd : okPut cx d = true) (hf : opv cx σ f = some (.yd o)) (h : coYield cx σ d o ags.toList k = some r) :
  MOK P cx ⟨d, .call ⟨.value f, ags, ts⟩, ty, pos, aft, g⟩ σ k r := by
 unfold coYield at h
 split at h
 ·next _ x hags =>
  obtain rfl : ags = #[x] := by cases ags; simp_all
  split at h
  ·next p hx =>
   obtain ⟨hne, h⟩ := grd_s h
   rw [Bool.not_eq_true'] at hne
   split at h
   ·next t E X Y mX mY gg z s E2 ys ho hp =>
    obtain ⟨hE, h1⟩ := grd_s h
    have hE := beq_t hE
    subst hE
    obtain ⟨hss, h2⟩ := cast_s h1
    cases hss
    obtain ⟨q, hq, h3⟩ := bd_s h2
    have main : ∀ (fr : Fr) (vs : Nat -> Value) (env : Env) (w : World), RelV P fr cx σ vs env w -> OpR P ⟨d, .call ⟨.value f, #[x], ts⟩, ty, pos, aft, g⟩ env w fun v w' => v = .bool q.2.isLeft /\ Bd cx σ /\ YSpec P (lOf (outW (vs o))) t.rep E2 mX mY gg /\
      ∃ u', St fr.we fr.Se (Sum.elim (fun x => mX x u') (fun y => mY y u') q.2 :: mO t.rep E2 (vs p) q.1 :: OS vs fr cx (delo (delo σ.ob o) p)) (GS P vs env fr cx σ) w' := by
     intro fr vs env w hR
     obtain ⟨hB, hst⟩ := hR
     obtain ⟨S0, _, hΓ⟩ := hst.ex
     have hxe : ev env x = vs p := opv_hold hx (gs_lko hΓ x)
     have hfe : ev env f = .func (.yield (lOf (outW (vs o)))) #[] #[] := opv_hold hf (gs_lko hΓ f)
     have hop := os_out2 hne ho hp hst
     obtain ⟨hY, h4⟩ := St.unpr (St.grp.1 hop)
     rw [<- hX.pp] at hY
     have h4 : St fr.we fr.Se (mX z ((hvW (vs o)).headD undef) :: mO t.rep E2 (vs p) ys :: OS vs fr cx (delo (delo σ.ob o) p)) (GS P vs env fr cx σ) w := h4
     obtain ⟨fn, tmps, as', bd', hy, hR⟩ := hY ys z q.1 q.2 hq (vs p) _ _ _ _ _ w h4
     have hrun : (execOp (ev env) ⟨d, .call ⟨.value f, #[x], ts⟩, ty, pos, aft, g⟩).run P w = .ok (.round (lOf (outW (vs o))) fn tmps as' bd') w := by
      rw [<- hxe] at hy
      simp [execOp, resolve, hfe, Deferred.ofValue, invoke, hy]
     unfold OpR
     rw [hrun]
     exact hR.mono fun e w' ⟨h5, h6⟩ => ⟨_, h5, rfl, hB, hY, h6⟩
    have fin : ∀ (X' : Od) (b : Bool) (u' : Value) (vs : Nat -> Value) (fr : Fr) (env : Env) (w' : World), Bd cx σ -> St fr.we fr.Se (moF (upv vs σ.nx (tupW (outW (vs o)) [u'])) (σ.nx, X') :: mO t.rep E2 (vs p) q.1 :: OS vs fr cx (delo (delo σ.ob o) p)) (GS P vs env fr cx σ) w' ->
      RelX P fr cx σ.nx vs ⟨σ.nx + 1, renY o σ.nx (putR σ.rg d [(0, .kb b)]), (σ.nx, X') :: delo (seto σ.ob p (.own t E2 q.1)) o⟩ (put env d (.bool b)) w' := by
     intro X' b u' vs fr env w' hB hs
     have hnp : p ≠ o := fun e => by subst e; simp at hne
     have hlt := fnd_lt hB ho
     have ho2 : fndO (delo σ.ob o) p = some (.own t E2 ys) := by rw [fndO_delo hnp]; exact hp
     have hs2 : St fr.we fr.Se (moF (upv vs σ.nx (tupW (outW (vs o)) [u'])) (σ.nx, X') :: OS vs fr cx (delo (seto σ.ob p (.own t E2 q.1)) o)) (GS P vs env fr cx σ) w' := by
      have h7 := os_perm (vs := vs) (fr := fr) (cx := cx) (ob := delo (seto σ.ob p (.own t E2 q.1)) o) (o := p) (X := .own t E2 q.1) (by rw [fndO_delo hnp]; exact (seto_fnd hp).1)
      have h8 : delo (delo (seto σ.ob p (.own t E2 q.1)) o) p = delo (delo σ.ob o) p := by
       rw [delo_comm (fun e => hnp e.symm), (seto_fnd hp).2, delo_comm (fun e => hnp e)]
      rw [h8] at h7
      exact hs.perm (h7.symm.cons _)
     obtain ⟨hb2, hs3⟩ : RelV P fr cx ⟨σ.nx + 1, putR σ.rg d [(0, .kb b)], (σ.nx, X') :: delo (seto σ.ob p (.own t E2 q.1)) o⟩ (upv vs σ.nx (tupW (outW (vs o)) [u'])) (put env d (.bool b)) w' := by
      have hob : ∀ e ∈ delo (seto σ.ob p (.own t E2 q.1)) o, e.1 < σ.nx := fun e he => by
       obtain ⟨e1, g1, g2⟩ := seto_mem hp e (delo_mem e he)
       rw [<- g2]; exact hB.o1 e1 g1
      refine relV_mk (σ' := ⟨σ.nx + 1, putR σ.rg d [(0, .kb b)], (σ.nx, X') :: delo (seto σ.ob p (.own t E2 q.1)) o⟩) (l := [(0, .kb b)]) (vs := vs) (Γl := []) hB hd rfl (Nat.le_succ _) (fun o ho => upv_old ho) (fun e he p hp => ?_) (fun e he => ?_) (fun S w _ e he => ?_) ?_
      ·obtain rfl := List.mem_singleton.1 he
       cases hp
      ·rcases List.mem_cons.1 he with rfl | he
       ·exact Nat.lt_succ_self _
       ·exact Nat.lt_succ_of_lt (hob e he)
      ·obtain rfl := List.mem_singleton.1 he
       exact rfl
      ·show St _ _ (moF (upv vs σ.nx _) (σ.nx, X') :: OS (upv vs σ.nx _) fr cx (delo (seto σ.ob p (.own t E2 q.1)) o)) _ _
       rw [os_upv hB hob]
       exact hs2
     refine ⟨_, fun o ho => upv_old ho, ⟨hb2.o1, hb2.o2, fun e he r hr => ?_, hb2.r2⟩, hs3.weak fun S w h => All.append (all_mem.2 fun f hf => ?_) (All.right h)⟩
     ·rcases renY_mem e he with h | ⟨e', h1, r', h2, rfl⟩
      ·exact hb2.r1 e h r hr
      ·cases hb : Nat.beq r' o <;> simp only [hb, cond_true, cond_false] at hr
       ·exact hb2.r1 e' h1 r (by rw [h2]; exact hr)
       ·cases hr; exact Nat.lt_succ_self _
     ·obtain ⟨e, he, rfl⟩ := List.mem_map.1 hf
      rcases renY_mem e he with h' | ⟨e', h1, r', h2, rfl⟩
      ·exact rs_get (All.left h) h'
      ·have h5 := rs_get (All.left h) (t := e'.1) (i := e'.2.1) (d := e'.2.2) h1
       rw [h2] at h5
       refine holdC_map h5 fun u hu => ?_
       cases hb : Nat.beq r' o
       ·exact hu
       ·have hu : u = .func (.yield (lOf (outW (upv vs σ.nx (tupW (outW (vs o)) [u']) r')))) #[] #[] := hu
        rw [beq_t hb, upv_old hlt] at hu
        show u = .func (.yield (lOf (outW (upv vs σ.nx (tupW (outW (vs o)) [u']) σ.nx)))) #[] #[]
        rw [upv_new]; exact hu
    cases hq2 : q.2 with
    | inl z' =>
     rw [hq2] at h3
     refine ⟨_, h3, Nat.le_succ _, fun fr vs env w hR => (main fr vs env w hR).mono ?_⟩
     rintro v w' ⟨rfl, hB, hY, u', hs⟩
     rw [hq2] at hs ⊢
     refine fin _ true u' vs fr env w' hB ?_
     rw [moU]
     refine St.grp.2 ?_
     rw [<- hX.pp]
     exact St.pr hY hs
    | inr y' =>
     rw [hq2] at h3
     refine ⟨_, h3, Nat.le_succ _, fun fr vs env w hR => (main fr vs env w hR).mono ?_⟩
     rintro v w' ⟨rfl, hB, hY, u', hs⟩
     rw [hq2] at hs ⊢
     refine fin _ false u' vs fr env w' hB ?_
     rw [moU]
     exact hs
   ·cases h
  ·cases h
 ·cases h
end
end Go.Proofs.YtmggkmchbdanfaaGreat
end

section
set_option linter.unusedVariables false
set_option linter.unusedSimpArgs false
namespace Go.Proofs.YtmggkmchbdanfaaGreat
section
variable {P : Program} {cf : Cf} {fr : Fr} {cx σ : Sg} {vs vs' : Nat -> Value} {env : Env} {w : World} {R : Type} {r : R}
 {d : Option Tmp} {ty t yt : TypeId} {pos : String} {aft : Array Edge} {g : Option (Nat × Bool)} {x y : Operand}
theorem frzR_own {o : Nat} {s : Ty} {E : TypeId} {xs : List s.D} {S : Nat -> Prop} (hf : (fV (eS s.rep) xs (vs o)).p S w) : ∀ {rg : List (Nat × Nat × Dv)}, All S (RS P vs env rg) w -> All S (RS P vs env (frzR o (.own s E xs) rg)) w
 | [], _ => trivial
 | (t, i, v) :: rg, h => by
  refine ⟨?_, frzR_own hf h.2⟩
  have h1 : (holdC P vs v (env t) i).p S w := h.1
  show (holdC P vs (frz1 o (.own s E xs) v) (env t) i).p S w
  cases v <;> try exact h1
  rename_i o'
  unfold frz1
  cases hb : Nat.beq o' o <;> simp only [hb, cond_false, cond_true]
  ·exact h1
  ·have := beq_t hb
   subst this
   refine holdC_map h1 fun u hu => ?_
   rw [show u = vs o' from hu]; exact hf
theorem frzR_var {o : Nat} {s : Ty} {E : TypeId} {z : s.D} {S : Nat -> Prop} (hf : (fP s.rep z (vs o)).p S w) : ∀ {rg : List (Nat × Nat × Dv)}, All S (RS P vs env rg) w -> All S (RS P vs env (frzR o (.var s E z) rg)) w
 | [], _ => trivial
 | (t, i, v) :: rg, h => by
  refine ⟨?_, frzR_var hf h.2⟩
  have h1 : (holdC P vs v (env t) i).p S w := h.1
  show (holdC P vs (frz1 o (.var s E z) v) (env t) i).p S w
  cases v <;> try exact h1
  rename_i o' s'
  unfold frz1
  cases hb : Nat.beq o' o <;> simp only [hb, cond_false, cond_true]
  ·exact h1
  ·have := beq_t hb
   subst this
   refine holdC_map h1 fun u hu => ?_
   rw [show u = vs o' from hu.1]; exact hf
theorem frzR_mat {o : Nat} {s : Ty} {E E1 : TypeId} {xss : List (List s.D)} {ix : List Nat} {S : Nat -> Prop} (hf : (fV (eS (eS s.rep)) (matD xss ix) (outW (vs o))).p S w) : ∀ {rg : List (Nat × Nat × Dv)}, All S (RS P vs env rg) w -> All S (RS P vs env (frzR o (.mat s E E1 xss ix) rg)) w
 | [], _ => trivial
 | (t, i, v) :: rg, h => by
  refine ⟨?_, frzR_mat hf h.2⟩
  have h1 : (holdC P vs v (env t) i).p S w := h.1
  show (holdC P vs (frz1 o (.mat s E E1 xss ix) v) (env t) i).p S w
  cases v <;> try exact h1
  rename_i o'
  unfold frz1
  cases hb : Nat.beq o' o <;> simp only [hb, cond_false, cond_true]
  ·exact h1
  ·have := beq_t hb
   subst this
   refine holdC_map h1 fun u hu => ?_
   rw [show u = outW (vs o') from hu]; exact hf
theorem frzR_oth {o : Nat} {X : Od} (hX : ∀ v, frz1 o X v = v) : ∀ {rg : List (Nat × Nat × Dv)}, frzR o X rg = rg
 | [] => rfl
 | (t, i, v) :: rg => by
  show (t, i, frz1 o X v) :: frzR o X rg = _
  rw [hX, frzR_oth hX]
theorem frz1_ref {o p : Nat} {X : Od} {v : Dv} (h : refO (frz1 o X v) = some p) : refO v = some p := by
 unfold frz1 at h
 split at h
 ·next o' s E xs =>
  cases hb : Nat.beq o' o <;> rw [hb] at h
  ·exact h
  ·cases h
 ·next o' t' s E z =>
  cases hb : Nat.beq o' o <;> rw [hb] at h
  ·exact h
  ·cases h
 ·next o' s E E1 xss ix =>
  cases hb : Nat.beq o' o <;> rw [hb] at h
  ·exact h
  ·cases h
 ·exact h
theorem frzR_ref {o : Nat} {X : Od} : ∀ {rg : List (Nat × Nat × Dv)}, ∀ e ∈ frzR o X rg, ∀ p, refO e.2.2 = some p -> ∃ e' ∈ rg, refO e'.2.2 = some p
 | [], e, he => absurd he List.not_mem_nil
 | (t, i, v) :: rg, e, he => by
  intro p hp
  rcases List.mem_cons.1 he with rfl | he
  ·refine ⟨(t, i, v), List.mem_cons_self .., ?_⟩
   exact frz1_ref hp
  ·obtain ⟨e', h1, h2⟩ := frzR_ref e he p hp
   exact ⟨e', List.mem_cons_of_mem _ h1, h2⟩
theorem relV_frzO {o : Nat} (h : RelV P fr cx σ vs env w) : RelV P fr cx (frzO σ o) vs env w := by
 unfold frzO
 split
 ·next X ho =>
  obtain ⟨hB, hst⟩ := h
  obtain ⟨i, hi, _, hdel⟩ := fndO_some ho
  have hB' : Bd cx ⟨σ.nx, frzR o X σ.rg, delo σ.ob o⟩ := ⟨fun e he => hB.o1 e (delo_mem e he), hB.o2, fun e he p hp => by obtain ⟨e', h1, h2⟩ := frzR_ref e he p hp; exact hB.r1 e' h1 p h2, hB.r2⟩
  refine ⟨hB', ?_⟩
  cases X with
  | own s E xs =>
   have hm : (OS vs fr cx σ.ob)[i]? = some (mO s.rep E (vs o) xs) := ms_idx hi
   have := fz_own i hst hm
   rw [ms_erase hi, <- hdel] at this
   exact this.weak fun S w ha => All.append (frzR_own ha.1 (All.left ha.2)) (All.right ha.2)
  | var s E z =>
   have hm : (OS vs fr cx σ.ob)[i]? = some (mP s.rep.c E (vs o) z) := ms_idx hi
   obtain ⟨b, hv, hs⟩ := hst.openP i hm
   have := fz_var (e := s.rep) i hs (get_set hm)
   rw [erase_set, ms_erase hi, <- hdel, <- hv] at this
   exact this.weak fun S w ha => All.append (frzR_var ha.1 (All.left ha.2)) (All.right ha.2)
  | mat s E E1 xss ix =>
   have h1 := os_out ho hst
   have h2 : St fr.we fr.Se (mMat s.rep E E1 (outW (vs o)) (hvW (vs o)) xss ix :: OS vs fr cx (delo σ.ob o)) (GS P vs env fr cx σ) w := St.grp.2 (mt_out h1).2
   exact (h2.mat_frz (mt_out h1).1).weak fun S w ha => All.append (frzR_mat ha.1 (All.left ha.2)) (All.right ha.2)
  | bo s E E0 xs =>
   rw [frzR_oth (fun v => by cases v <;> rfl)]
   exact St.drop (i := 0) (os_out ho hst)
  | ho E0 =>
   rw [frzR_oth (fun v => by cases v <;> rfl)]
   exact St.drop (i := 0) (os_out ho hst)
  | hid t E X Y mX mY g x =>
   rw [frzR_oth (fun v => by cases v <;> rfl)]
   exact St.drop (i := 0) (os_out ho hst)
  | hiy Y mY y =>
   rw [frzR_oth (fun v => by cases v <;> rfl)]
   exact St.drop (i := 0) (os_out ho hst)
 ·exact h
theorem relV_frz (x : Operand) (h : RelV P fr cx σ vs env w) : RelV P fr cx (frz cx σ x) vs env w := by
 unfold frz
 split
 ·exact relV_frzO h
 ·exact relV_frzO h
 ·exact relV_frzO h
 ·exact h
theorem rel_frz (x : Operand) (h : Rel P fr cx σ env w) : Rel P fr cx (frz cx σ x) env w := by
 obtain ⟨hB, vs, hst⟩ := h
 obtain ⟨h1, h2⟩ := relV_frz x ⟨hB, hst⟩
 exact ⟨h1, vs, h2⟩
theorem rel_frzL : ∀ (l : List Operand) {σ : Sg}, Rel P fr cx σ env w -> Rel P fr cx (frzL cx σ l) env w
 | [], _, h => h
 | x :: r, _, h => rel_frzL r (rel_frz x h)
theorem m_all0 (hT : TTok P cf.tt) (hL : ELok P cf.tt) (hC : ∀ s ∈ cf.cs, SigOK P s) (hX : XOK P cf) {op : Op} {k : Sg -> Option R} (hd : okPut cx d = true) (h : mOp0 cf cx σ d op k = some r) :
  MOK P cx ⟨d, op, ty, pos, aft, g⟩ σ k r := by
 unfold mOp0 at h
 split at h
 ·exact m_alloc hT hd h
 ·next E x =>
  cases hb : isBx cf d <;> rw [hb] at h
  ·exact m_E hT hL hC hX hd h
  ·exact m_box hd h
 ·next t x y =>
  obtain ⟨hn, h⟩ := grd_s h
  have hn : d = none := by simpa using hn
  subst hn
  split at h
  ·next ti hti => exact m_store hT hti h
  ·cases h
 ·exact m_make hT hd h
 ·exact m_lit hT hL hd h
 ·next t x hi =>
  split at h
  ·next o hx => exact m_slice hT hL hd hx h
  ·exact m_E hT hL hC hX hd h
 ·exact m_app hT hd h
 ·exact m_copy hT hL hd h
 ·next f ags ts =>
  split at h
  ·next f' cs hf =>
   split at h
   ·next s hs => exact m_call hC hd hf hs h
   ·exact m_E hT hL hC hX hd h
  ·exact m_E hT hL hC hX hd h
 ·exact m_E hT hL hC hX hd h
theorem m_all (hT : TTok P cf.tt) (hL : ELok P cf.tt) (hC : ∀ s ∈ cf.cs, SigOK P s) (hX : XOK P cf) {op : Op} {k : Sg -> Option R} (hd : okPut cx d = true) (h : mOp cf cx σ d op k = some r) :
  MOK P cx ⟨d, op, ty, pos, aft, g⟩ σ k r := by
 unfold mOp at h
 cases hc : coM cf cx σ d op with
 | no => rw [hc] at h; exact m_all0 hT hL hC hX hd h
 | _ =>
  rw [hc] at h
  simp only [mCo] at h
  unfold coM at hc
  split at hc
  ·next t x y =>
   cases hb : isCo (opv cx σ x) <;> rw [hb] at hc <;> cases hc
   all_goals
    obtain ⟨hn, h⟩ := grd_s h
    have hn : d = none := by simpa using hn
    subst hn
    split at h
    ·next ti hti => exact co_store hT hti h
    ·cases h
  ·next t x y =>
   cases hb : isMt cf d <;> rw [hb] at hc <;> cases hc
   all_goals exact co_make hT hd h
  ·next t n ps =>
   cases hb : isMt cf d <;> rw [hb] at hc <;> cases hc
   all_goals exact co_lit hT hL hd h
  ·next E =>
   cases hb : isMt cf d <;> rw [hb] at hc <;> cases hc
   all_goals exact co_alloc hT hd h
  ·next t x =>
   split at hc
   ·next o hx => cases hc <;> exact co_take hT hd hx h
   ·cases hc
  ·next ags ts =>
   cases hb : ags.toList.any (fun x => isMw (opv cx σ x)) <;> rw [hb] at hc <;> cases hc
   all_goals exact co_app hT hd h
  ·next f ags ts =>
   split at hc
   ·next o hf => cases hc <;> exact co_yield hX hd hf h
   ·next f' hf =>
    split at hc
    ·next s hs =>
     obtain ⟨h1, h2⟩ := fndM_s hs
     subst h2
     cases hc <;> exact co_strike hX hd hf h1 h
    ·cases hc
   ·cases hc
  ·cases hc
theorem put_self {t : Tmp} : put env (some t) (env t) = env := by
 funext s
 by_cases h : s = t
 ·subst h; exact put_eq
 ·exact put_ne (fun e => h (by cases e; rfl))
theorem rel_know {t : Tmp} {b : Bool} (hn : notIn cx.rg t = true) (hv : env t = .bool b) (h : Rel P fr cx σ env w) : Rel P fr cx (know σ t b) env w := by
 obtain ⟨hB, vs, hst⟩ := h
 have := RelX.rel <| rel_mk (P := P) (fr := fr) (cx := cx) (σ := σ) (vs := vs) (vs' := vs) (env := env) (w := w) (d := some t) (v := env t) (σ' := know σ t b) (l := [(0, .kb b)]) (Γl := []) hB hn rfl (Nat.le_refl _) (fun _ _ => rfl)
  (fun e he o ho => by obtain rfl := List.mem_singleton.1 he; cases ho) hB.o1 (fun S w _ e he => by obtain rfl := List.mem_singleton.1 he; exact hv) hst
 rwa [put_self] at this
theorem lk_bool {t : Tmp} {x : Bool} {S : Nat -> Prop} (h : get cx σ t 0 = some (.d .b x)) (hl : Lk P vs env S w cx σ t) : env t = .bool x := fV_bool (hl 0 _ h)
theorem ifB_s {b : Bool} {a c : Option R} (h : ifB b a c = some r) : (b = true /\ a = some r) \/ (b = false /\ c = some r) := by
 cases b
 ·exact .inr ⟨rfl, h⟩
 ·exact .inl ⟨rfl, h⟩
theorem guard_s {all : List Oper} {o : Oper} {k : Sg -> Bool -> Option R} (h : guardD cx all o σ k = some r) (hR : Rel P fr cx σ env w) : ∃ σ' b, k σ' b = some r /\ Rel P fr cx σ' env w /\ wantedE all.toArray env o = b := by
 have hR0 := hR
 obtain ⟨hB, vs, hst⟩ := hR
 obtain ⟨S, _, hΓ⟩ := hst.ex
 unfold guardD at h
 split at h
 ·next hg => exact ⟨σ, true, h, hR0, by unfold wantedE; rw [hg]⟩
 ·next j want hg =>
  split at h
  ·next o' ho' =>
   split at h
   ·next t ht =>
    have hgd : ∀ {v}, env t = v -> gd all.toArray env j = (match v with | .bool b => some b | _ => none) := by
     rintro v rfl
     unfold gd
     simp only [List.getElem?_toArray, ho', Option.bind_some, ht]
     rfl
    have hw : wantedE all.toArray env o = (gd all.toArray env j == some want) := by unfold wantedE; rw [hg]
    split at h
    ·next b hb =>
     have hv : env t = .bool b := gs_lk hΓ t 0 _ hb
     refine ⟨σ, _, h, hR0, ?_⟩
     rw [hw, hgd hv]
     cases b <;> cases want <;> rfl
    ·next hb =>
     have hv : env t = undef := gs_lk hΓ t 0 _ hb
     refine ⟨σ, _, h, hR0, ?_⟩
     rw [hw, hgd hv]; rfl
    ·next x hb =>
     obtain ⟨hn, h⟩ := grd_s h
     have hv : env t = .bool x := lk_bool hb (gs_lk hΓ t)
     rcases ifB_s h with ⟨hx, h⟩ | ⟨hx, h⟩
     ·exact ⟨_, _, h, rel_know hn (hv.trans (congrArg Value.bool hx)) hR0, by rw [hw, hgd (hv.trans (congrArg Value.bool hx))]; cases want <;> rfl⟩
     ·exact ⟨_, _, h, rel_know hn (hv.trans (congrArg Value.bool hx)) hR0, by rw [hw, hgd (hv.trans (congrArg Value.bool hx))]; cases want <;> rfl⟩
    ·cases h
   ·cases h
  ·cases h
theorem pick_s {o : Oper} {k : Sg -> Option R} (h : pickD cx o σ k = some r) (hR : Rel P fr cx σ env w) : ∃ σ', k σ' = some r /\ Rel P fr cx σ' env w := by
 have hR0 := hR
 obtain ⟨hB, vs, hst⟩ := hR
 obtain ⟨S, _, hΓ⟩ := hst.ex
 unfold pickD at h
 split at h
 ·next t _ _ _ =>
  split at h
  ·next x hb =>
   obtain ⟨hn, h⟩ := grd_s h
   have hv : env t = .bool x := lk_bool hb (gs_lk hΓ t)
   rcases ifB_s h with ⟨hx, h⟩ | ⟨hx, h⟩
   ·exact ⟨_, h, rel_know hn (hv.trans (congrArg Value.bool hx)) hR0⟩
   ·exact ⟨_, h, rel_know hn (hv.trans (congrArg Value.bool hx)) hR0⟩
  ·exact ⟨σ, h, hR0⟩
 ·exact ⟨σ, h, hR0⟩
theorem WpL_op {N : Nd} {ops : Array Oper} {o : Oper} {rest : List Oper} {Q : Qs} (hw : wantedE ops env o = true) (hd : okDst N.n o.dst = true) (h : OpR P o env w (fun v w' => WpL P N ops rest Q (put env o.dst v) w')) : WpL P N ops (o :: rest) Q env w := by
 intro a h1 h2 h3
 subst h3
 unfold wpListIn
 rw [if_pos (by rw [wanted_eq]; exact hw)]
 refine h.wp fun v w' hk => ?_
 exact hk _ (by rw [size_put]; exact h1) (by rw [defers_put]; exact h2) (envOf_put (by rw [h1]; exact okDst_lt hd))
theorem WpL_not {N : Nd} {ops : Array Oper} {o : Oper} {rest : List Oper} {Q : Qs} (hw : wantedE ops env o = false) (hd : okDst N.n o.dst = true) (h : WpL P N ops rest Q (put env o.dst undef) w) : WpL P N ops (o :: rest) Q env w := by
 intro a h1 h2 h3
 subst h3
 unfold wpListIn
 rw [if_neg (by rw [wanted_eq, hw]; exact Bool.false_ne_true)]
 exact ⟨fun _ _ => trivial, h _ (by rw [size_put]; exact h1) (by rw [defers_put]; exact h2) (envOf_put (by rw [h1]; exact okDst_lt hd))⟩
theorem rel_un (hd : okPut cx d = true) (h : Rel P fr cx σ env w) : Rel P fr cx (σ.put d [(0, .un)]) (put env d undef) w := by
 obtain ⟨hB, vs, hst⟩ := h
 exact (rel_mk (σ' := σ.put d [(0, .un)]) (l := [(0, .un)]) (v := undef) (vs := vs) (vs' := vs) (Γl := []) hB hd rfl (Nat.le_refl _) (fun _ _ => rfl) (fun e he o ho => by obtain rfl := List.mem_singleton.1 he; cases ho) hB.o1 (fun S w _ e he => by obtain rfl := List.mem_singleton.1 he; exact rfl) hst).rel
def SmO (cx : Sg) (a b : Env) : Prop := ∀ e ∈ cx.rg, b e.1 = a e.1
theorem SmO.refl {a : Env} : SmO cx a a := fun _ _ => rfl
theorem SmO.trans {a b c : Env} (h : SmO cx a b) (k : SmO cx b c) : SmO cx a c := fun e he => (k e he).trans (h e he)
theorem SmO.put {a b : Env} {v : Value} (hd : okPut cx d = true) (h : SmO cx a b) : SmO cx a (put b d v) := fun e he => by
 rw [put_ne fun ht => ?_]
 ·exact h e he
 ·subst ht
  simp only [okPut, notIn, List.all_eq_true] at hd
  have := hd e he
  simp at this
theorem runL_s (hT : TTok P cf.tt) (hL : ELok P cf.tt) (hC : ∀ s ∈ cf.cs, SigOK P s) (hX : XOK P cf) {N : Nd} {all : List Oper} {Q : Qs} {k : Sg -> Option R} {env0 : Env}
  (hK : ∀ σ', k σ' = some r -> ∀ env w, SmO cx env0 env -> Rel P fr cx σ' env w -> Q .normal env w) : ∀ {l : List Oper} {σ : Sg} {env : Env} {w : World}, SmO cx env0 env -> (l.all fun o => okDst N.n o.dst) = true -> runL cf cx all l σ k = some r -> Rel P fr cx σ env w -> WpL P N all.toArray l Q env w
 | [], σ, env, w, hS, _, h, hR => fun a h1 h2 h3 => wpListIn_nil ⟨h1, h2, h3 ▸ hK σ h env w hS hR⟩
 | o :: l, σ, env, w, hS, hN, h, hR => by
  simp only [List.all_cons, Bool.and_eq_true] at hN
  unfold runL at h
  obtain ⟨hd, h⟩ := grd_s h
  obtain ⟨σ1, b, h, hR, hw⟩ := guard_s h hR
  cases b
  ·exact WpL_not hw hN.1 (runL_s hT hL hC hX hK (hS.put hd) hN.2 h (rel_un hd hR))
  ·obtain ⟨σ2, h, hR⟩ := pick_s h hR
   have hR := rel_frzL (onto cf cx σ2 o.dst o.op) hR
   obtain ⟨σ', h', _, hm⟩ := m_all (P := P) (d := o.dst) (ty := o.type) (pos := o.pos) (aft := o.after) (g := o.guard) hT hL hC hX hd h
   obtain ⟨hB, vs, hst⟩ := hR
   exact WpL_op hw hN.1 ((hm fr vs env w ⟨hB, hst⟩).mono fun v w' hR' => runL_s hT hL hC hX hK (hS.put hd) hN.2 h' hR'.rel)
end
end Go.Proofs.YtmggkmchbdanfaaGreat
end

section
set_option linter.unusedVariables false
set_option linter.unusedSimpArgs false
namespace Go.Proofs.YtmggkmchbdanfaaGreat
section
variable {P : Program} {cf : Cf} {fr : Fr} {cx σ σ0 : Sg} {vs vs' : Nat -> Value} {env env0 : Env} {w : World} {R : Type} {r : R}
 {d : Option Tmp} {ty t yt : TypeId} {pos : String} {aft : Array Edge} {g : Option (Nat × Bool)} {x y : Operand}
theorem fnd_skip : ∀ {a b : List (Nat × Nat × Dv)} {t i : Nat}, (∀ e ∈ a, e.1 ≠ t) -> fnd (a ++ b) t i = fnd b t i
 | [], _, _, _, _ => rfl
 | (t', i', d) :: a, b, t, i, h => by
  show (bif Nat.beq t' t && Nat.beq i' i then some d else fnd (a ++ b) t i) = _
  rw [beq_no (h (t', i', d) (List.mem_cons_self ..))]
  simp only [Bool.false_and, cond_false]
  exact fnd_skip fun e he => h e (List.mem_cons_of_mem _ he)
theorem fnd_dels {rg : List (Nat × Nat × Dv)} {t t' i : Nat} (h : t' ≠ t) : fnd (dels rg t) t' i = fnd rg t' i := by
 induction rg with
 | nil => rfl
 | cons e rg ih =>
  obtain ⟨s, j, d⟩ := e
  unfold dels at ih ⊢
  rw [List.filter_cons]
  cases hb : Nat.beq s t
  ·simp only [hb, Bool.not_false, if_true]
   unfold fnd
   rw [ih]
  ·simp only [hb, Bool.not_true, Bool.false_eq_true, if_false]
   rw [ih]
   have := beq_t hb
   subst this
   conv => rhs; unfold fnd
   rw [beq_no (fun e => h e.symm)]; rfl
theorem fnd_put_ne {rg : List (Nat × Nat × Dv)} {t t' i : Nat} {l : List (Nat × Dv)} (h : t' ≠ t) : fnd (putR rg (some t) l) t' i = fnd rg t' i := by
 unfold putR
 rw [fnd_skip fun e he => by obtain ⟨e', _, rfl⟩ := List.mem_map.1 he; exact fun e => h e.symm]
 exact fnd_dels h
theorem get_put {t t' i : Nat} {l : List (Nat × Dv)} {n : Nat} {ob : List (Nat × Od)} {dv : Dv} (hn : notIn cx.rg t = true) (h : get cx ⟨n, putR σ.rg (some t) l, ob⟩ t' i = some dv) : (t' = t /\ (i, dv) ∈ l) \/ (t' ≠ t /\ get cx σ t' i = some dv) := by
 by_cases ht : t' = t
 ·subst ht
  left
  refine ⟨rfl, ?_⟩
  rcases get_mem h with hm | hm
  ·have hm : (t', i, dv) ∈ l.map (fun e => (t', e.1, e.2)) ++ dels σ.rg t' := hm
   rcases List.mem_append.1 hm with hm | hm
   ·obtain ⟨e, he, heq⟩ := List.mem_map.1 hm
    cases heq; exact he
   ·have := (List.mem_filter.1 hm).2
    simp at this
  ·simp only [notIn, List.all_eq_true] at hn
   have := hn _ hm
   simp at this
 ·right
  refine ⟨ht, ?_⟩
  unfold get at h ⊢
  rw [show fnd (putR σ.rg (some t) l) t' i = fnd σ.rg t' i from fnd_put_ne ht] at h
  exact h
theorem lk_put {t : Nat} {l : List (Nat × Dv)} {n : Nat} {ob : List (Nat × Od)} {S : Nat -> Prop} (hn : notIn cx.rg t = true) {t' : Nat} (h1 : t' = t -> ∀ e ∈ l, (holdC P vs e.2 (env t) e.1).p S w) (h2 : t' ≠ t -> Lk P vs env S w cx σ t') : Lk P vs env S w cx ⟨n, putR σ.rg (some t) l, ob⟩ t' := by
 intro i dv hd
 rcases get_put hn hd with ⟨rfl, hm⟩ | ⟨hne, hg⟩
 ·exact h1 rfl _ hm
 ·exact h2 hne i dv hg
theorem bd_put {l : List (Nat × Dv)} (hB : Bd cx σ) (hl : ∀ e ∈ l, ∀ o, refO e.2 = some o -> o < σ.nx) : Bd cx (σ.put d l) := by
 refine ⟨hB.o1, hB.o2, fun e he o ho => ?_, hB.r2⟩
 have he : e ∈ putR σ.rg d l := he
 unfold putR at he
 cases d with
 | none => exact hB.r1 e he o ho
 | some t =>
  rcases List.mem_append.1 he with he | he
  ·obtain ⟨e', he', rfl⟩ := List.mem_map.1 he
   exact hl e' he' o ho
  ·exact hB.r1 e (List.mem_filter.1 he).1 o ho
theorem lk_know {t t' : Nat} {x b : Bool} {S : Nat -> Prop} (hn : notIn cx.rg t = true) (hb : get cx σ t 0 = some (.d .b x)) (hx : x = b) (h : Lk P vs env S w cx σ t') : Lk P vs env S w cx (know σ t b) t' := by
 refine lk_put hn (fun e e' he => ?_) (fun _ => h)
 subst e
 obtain rfl := List.mem_singleton.1 he
 exact (lk_bool hb h).trans (congrArg Value.bool hx)
theorem guardE_s {all : List Oper} {o : Oper} {k : Sg -> Bool -> Option R} (h : guardD cx all o σ k = some r) (hB : Bd cx σ) : ∃ σ' b, k σ' b = some r /\ σ'.ob = σ.ob /\ σ'.nx = σ.nx /\ Bd cx σ' /\
  (∀ (P : Program) vs env S w t, Lk P vs env S w cx σ t -> Lk P vs env S w cx σ' t) /\ (∀ (P : Program) vs env S w, (∀ t ∈ Oper.looksAt all.toArray o, Lk P vs env S w cx σ t) -> wantedE all.toArray env o = b) := by
 unfold guardD at h
 split at h
 ·next hg => exact ⟨σ, true, h, rfl, rfl, hB, fun _ _ _ _ _ _ h => h, fun P vs env S w _ => by unfold wantedE; rw [hg]⟩
 ·next j want hg =>
  split at h
  ·next o' ho' =>
   split at h
   ·next t ht =>
    have hlk : t ∈ Oper.looksAt all.toArray o := by
     unfold Oper.looksAt
     rw [hg]
     simp [ho', ht]
    have hgd : ∀ {env : Env} {v}, env t = v -> gd all.toArray env j = (match v with | .bool b => some b | _ => none) := by
     rintro env v rfl
     unfold gd
     simp only [List.getElem?_toArray, ho', Option.bind_some, ht]
     rfl
    have hw : ∀ env, wantedE all.toArray env o = (gd all.toArray env j == some want) := fun env => by unfold wantedE; rw [hg]
    split at h
    ·next b hb =>
     refine ⟨σ, _, h, rfl, rfl, hB, fun _ _ _ _ _ _ h => h, fun P vs env S w hl => ?_⟩
     have hv : env t = .bool b := hl t hlk 0 _ hb
     rw [hw, hgd hv]
     cases b <;> cases want <;> rfl
    ·next hb =>
     refine ⟨σ, _, h, rfl, rfl, hB, fun _ _ _ _ _ _ h => h, fun P vs env S w hl => ?_⟩
     have hv : env t = undef := hl t hlk 0 _ hb
     rw [hw, hgd hv]; rfl
    ·next x hb =>
     obtain ⟨hn, h⟩ := grd_s h
     have hbd : ∀ b, Bd cx (know σ t b) := fun b => bd_put (d := some t) hB fun e he o ho => by obtain rfl := List.mem_singleton.1 he; cases ho
     rcases ifB_s h with ⟨hx, h⟩ | ⟨hx, h⟩
     ·refine ⟨_, _, h, rfl, rfl, hbd _, fun P vs env S w t' hl => lk_know hn hb hx hl, fun P vs env S w hl => ?_⟩
      have hv := (lk_bool hb (hl t hlk)).trans (congrArg Value.bool hx)
      rw [hw, hgd hv]; cases want <;> rfl
     ·refine ⟨_, _, h, rfl, rfl, hbd _, fun P vs env S w t' hl => lk_know hn hb hx hl, fun P vs env S w hl => ?_⟩
      have hv := (lk_bool hb (hl t hlk)).trans (congrArg Value.bool hx)
      rw [hw, hgd hv]; cases want <;> rfl
    ·cases h
   ·cases h
  ·cases h
theorem pickE_s {o : Oper} {k : Sg -> Option R} (h : pickD cx o σ k = some r) (hB : Bd cx σ) : ∃ σ', k σ' = some r /\ σ'.ob = σ.ob /\ σ'.nx = σ.nx /\ Bd cx σ' /\ (∀ (P : Program) vs env S w t, Lk P vs env S w cx σ t -> Lk P vs env S w cx σ' t) := by
 unfold pickD at h
 split at h
 ·next t _ _ _ =>
  split at h
  ·next x hb =>
   obtain ⟨hn, h⟩ := grd_s h
   have hbd : ∀ b, Bd cx (know σ t b) := fun b => bd_put (d := some t) hB fun e he o ho => by obtain rfl := List.mem_singleton.1 he; cases ho
   rcases ifB_s h with ⟨hx, h⟩ | ⟨hx, h⟩
   ·exact ⟨_, h, rfl, rfl, hbd _, fun P vs env S w t' hl => lk_know hn hb hx hl⟩
   ·exact ⟨_, h, rfl, rfl, hbd _, fun P vs env S w t' hl => lk_know hn hb hx hl⟩
  ·exact ⟨σ, h, rfl, rfl, hB, fun _ _ _ _ _ _ h => h⟩
 ·exact ⟨σ, h, rfl, rfl, hB, fun _ _ _ _ _ _ h => h⟩
def prL (P : Program) (vs : Nat -> Value) (l : List (Nat × Dv)) : Pr where
 p S v w := ∀ e ∈ l, (holdC P vs e.2 v e.1).p S w
 keepS h k := fun e he => (holdC P vs e.2 _ e.1).keep (h e he) k
 sub h k := fun e he => (holdC P vs e.2 _ e.1).sub (h e he) k
def InvK (P : Program) (vs : Nat -> Value) (Γ : List FF) (env0 : Env) (cx σ : Sg) (K : List (Tmp × Pr)) : Prop := ∀ (env : Env) (S : Nat -> Prop) (w : World), All S Γ w -> ∀ t, holdK K env0 env S w t -> Lk P vs env S w cx σ t
def NoCx (cx : Sg) (K : List (Tmp × Pr)) : Prop := ∀ e ∈ K, notIn cx.rg e.1 = true
theorem holdL_mem {K : List (Tmp × Pr)} {S : Nat -> Prop} : ∀ {ts : List Tmp}, HoldL K env0 env S w ts -> ∀ t ∈ ts, holdK K env0 env S w t
 | [], _, _, h => absurd h List.not_mem_nil
 | _ :: _, h, t, ht => by
  rcases List.mem_cons.1 ht with rfl | ht
  ·exact h.1
  ·exact holdL_mem h.2 t ht
theorem invK_put {Γ : List FF} {K : List (Tmp × Pr)} {Φ : Pr} {l : List (Nat × Dv)} {o : Oper} (hd : okPut cx o.dst = true) (h : InvK P vs Γ env0 cx σ K) (hΦ : ∀ S v w, Φ.p S v w -> ∀ e ∈ l, (holdC P vs e.2 v e.1).p S w) : InvK P vs Γ env0 cx (σ.put o.dst l) (addK o.dst Φ K) := by
 intro env S w hΓ t ht
 cases hdst : o.dst with
 | none =>
  rw [hdst] at ht
  exact h env S w hΓ t ht
 | some s =>
  rw [hdst] at ht hd
  refine lk_put hd (fun e => ?_) (fun hne => ?_)
  ·subst e
   refine hΦ S _ w ?_
   unfold holdK addK at ht
   simpa using ht
  ·refine h env S w hΓ t ?_
   unfold holdK addK at ht
   rw [List.find?_cons, beq_no (fun e => hne e.symm)] at ht
   exact ht
theorem noCx_add {K : List (Tmp × Pr)} {Φ : Pr} {d : Option Tmp} (hd : okPut cx d = true) (h : NoCx cx K) : NoCx cx (addK d Φ K) := by
 cases d with
 | none => exact h
 | some s =>
  intro e he
  rcases List.mem_cons.1 he with rfl | he
  ·exact hd
  ·exact h e he
theorem runE_s (hT : TTok P cf.tt) (hL : ELok P cf.tt) (hC : ∀ s ∈ cf.cs, SigOK P s) (hX : XOK P cf) {all : List Oper} {k : Sg -> Option R} {Γ : List FF} : ∀ {os : List Oper} {σ : Sg} {K : List (Tmp × Pr)}, runE cf cx all os σ k = some r ->
  InvK P vs Γ env0 cx σ K -> NoCx cx K -> σ.ob = σ0.ob -> Bd cx σ -> ∃ (Φs : List Pr) (σ' : Sg), Φs.length = os.length /\ Obs P all.toArray (OS vs fr cx σ0.ob) Γ env0 (os.zip Φs) K /\ k σ' = some r /\ InvK P vs Γ env0 cx σ' (Kof (os.zip Φs) K) /\ NoCx cx (Kof (os.zip Φs) K) /\ σ'.ob = σ0.ob /\ Bd cx σ'
 | [], σ, K, h, hi, hn, ho, hB => ⟨[], σ, rfl, trivial, h, hi, hn, ho, hB⟩
 | o :: os, σ, K, h, hi, hn, ho, hB => by
  unfold runE at h
  obtain ⟨hd, h⟩ := grd_s h
  obtain ⟨σ1, b, h, ho1, hx1, hB1, hlk1, hw1⟩ := guardE_s h hB
  have hw : ∀ {env : Env} {S : Nat -> Prop} {w : World}, All S Γ w -> HoldL K env0 env S w (o.looksAt all.toArray) -> wantedE all.toArray env o = b := fun {env S w} hΓ hh => hw1 P vs env S w fun t ht => hi env S w hΓ t (holdL_mem hh t ht)
  cases b
  ·have hi' : InvK P vs Γ env0 cx (σ1.put o.dst [(0, .un)]) (addK o.dst (prV undef) K) := invK_put hd (fun env S w hΓ t ht => hlk1 P vs env S w t (hi env S w hΓ t ht)) fun S v w hv e he => by obtain rfl := List.mem_singleton.1 he; exact hv
   obtain ⟨Φs, σ', h1, h2, h3, h4, h5, h6, h7⟩ := runE_s hT hL hC hX (os := os) h hi' (noCx_add hd hn) (ho1.trans ho) (bd_put hB1 fun e he p hp => by obtain rfl := List.mem_singleton.1 he; cases hp)
   refine ⟨prV undef :: Φs, σ', by simp [h1], ⟨fun S w env hS hM hΓ hh => ⟨fun hc => ?_, fun _ => rfl⟩, h2⟩, h3, h4, h5, h6, h7⟩
   rw [hw hΓ hh] at hc; cases hc
  ·obtain ⟨σ2, h, ho2, hx2, hB2, hlk2⟩ := pickE_s h hB1
   obtain ⟨l, h, hes⟩ := e_all (P := P) (d := o.dst) (ty := o.type) (pos := o.pos) (aft := o.after) (g := o.guard) (F := fr.F) hT hL hC hX h
   obtain ⟨hl, h⟩ := grd_s h
   have hlk : ∀ env S w t, Lk P vs env S w cx σ t -> Lk P vs env S w cx σ2 t := fun env S w t ht => hlk2 P vs env S w t (hlk1 P vs env S w t ht)
   have hi' : InvK P vs Γ env0 cx (σ2.put o.dst l) (addK o.dst (prL P vs l) K) := invK_put hd (fun env S w hΓ t ht => hlk env S w t (hi env S w hΓ t ht)) fun S v w hv => hv
   have hob : σ2.ob = σ0.ob := ho2.trans (ho1.trans ho)
   obtain ⟨Φs, σ', h1, h2, h3, h4, h5, h6, h7⟩ := runE_s hT hL hC hX (os := os) h hi' (noCx_add hd hn) hob (bd_put hB2 (okL_s hl))
   refine ⟨prL P vs l :: Φs, σ', by simp [h1], ⟨fun S w env hS hM hΓ hh => ⟨fun hc => ?_, fun hc => ?_⟩, h2⟩, h3, h4, h5, h6, h7⟩
   ·refine hes env w S vs hS (by rw [hob]; exact hM) fun t ht => hlk env S w t (hi env S w hΓ t (holdL_mem hh t ?_))
    exact List.mem_append.2 (.inl ht)
   ·rw [hw hΓ hh] at hc; cases hc
end
end Go.Proofs.YtmggkmchbdanfaaGreat
end

section
set_option linter.unusedVariables false
set_option linter.unusedSimpArgs false
namespace Go.Proofs.YtmggkmchbdanfaaGreat
def avL (al : Rb -> Bool) (rs : List Rb) : List (Nat × Od) := rs.filterMap fun r => if al r = true then some (r.o, r.x) else none
def cOf (i : Nat) (rs : List Rb) : List (Nat × Od) := rs.filterMap fun r => if r.c = some i then some (r.o, r.x) else none
def pOf (i : Nat) (rs : List Rb) : List (Nat × Od) := rs.filterMap fun r => if r.a = some i then some (r.o, r.x) else none
def rOf (i : Nat) (rs : List Rb) : List (Nat × Od) := rs.filterMap fun r => if i ∈ r.rd then some (r.o, r.x) else none
theorem av_split {al al' : Rb -> Bool} {i : Nat} : ∀ {rs : List Rb}, (∀ r ∈ rs, (r.c = some i /\ i ∉ r.rd /\ r.a ≠ some i /\ al r = true /\ al' r = false) \/ (r.a = some i /\ r.c ≠ some i /\ i ∉ r.rd /\ al r = false /\ al' r = true) \/
  (i ∈ r.rd /\ r.c ≠ some i /\ r.a ≠ some i /\ al r = true /\ al' r = true) \/ (r.c ≠ some i /\ r.a ≠ some i /\ i ∉ r.rd /\ al r = al' r)) ->
  ∃ rest, (∀ e ∈ rest, ∃ r ∈ rs, e = (r.o, r.x) /\ al r = true /\ al' r = true) /\ (avL al rs).Perm (cOf i rs ++ (rOf i rs ++ rest)) /\ (avL al' rs).Perm (pOf i rs ++ (rOf i rs ++ rest))
 | [], _ => ⟨[], fun e he => absurd he List.not_mem_nil, List.Perm.refl _, List.Perm.refl _⟩
 | r :: rs, h => by
  obtain ⟨rest, h1, h2, h3⟩ := av_split (rs := rs) fun q hq => h q (List.mem_cons_of_mem _ hq)
  have h1' : ∀ e ∈ rest, ∃ q ∈ r :: rs, e = (q.o, q.x) /\ al q = true /\ al' q = true := fun e he => by
   obtain ⟨q, hq, h⟩ := h1 e he
   exact ⟨q, List.mem_cons_of_mem _ hq, h⟩
  rcases h r (List.mem_cons_self ..) with ⟨a1, a2, a3, a4, a5⟩ | ⟨a1, a2, a3, a4, a5⟩ | ⟨a1, a2, a3, a4, a5⟩ | ⟨a1, a2, a3, a4⟩
  ·refine ⟨rest, h1', ?_, ?_⟩
   ·simp only [avL, cOf, rOf, List.filterMap_cons, a1, a2, a4, if_true, if_false, reduceIte] at h2 ⊢
    exact h2.cons _
   ·simp only [avL, pOf, rOf, List.filterMap_cons, a3, a2, a5, if_false, reduceIte, Bool.false_eq_true] at h3 ⊢
    exact h3
  ·refine ⟨rest, h1', ?_, ?_⟩
   ·simp only [avL, cOf, rOf, List.filterMap_cons, a2, a3, a4, if_false, reduceIte, Bool.false_eq_true] at h2 ⊢
    exact h2
   ·simp only [avL, pOf, rOf, List.filterMap_cons, a1, a3, a5, if_true, if_false, reduceIte] at h3 ⊢
    exact h3.cons _
  ·refine ⟨rest, h1', ?_, ?_⟩
   ·simp only [avL, cOf, rOf, List.filterMap_cons, a1, a2, a4, if_true, if_false, reduceIte] at h2 ⊢
    exact (h2.cons _).trans List.perm_middle.symm
   ·simp only [avL, pOf, rOf, List.filterMap_cons, a1, a3, a5, if_true, if_false, reduceIte] at h3 ⊢
    exact (h3.cons _).trans List.perm_middle.symm
  ·cases hb : al r with
   | false =>
    rw [hb] at a4
    refine ⟨rest, h1', ?_, ?_⟩
    ·simp only [avL, cOf, rOf, List.filterMap_cons, a1, a3, hb, if_false, reduceIte, Bool.false_eq_true] at h2 ⊢
     exact h2
    ·simp only [avL, pOf, rOf, List.filterMap_cons, a2, a3, <- a4, if_false, reduceIte, Bool.false_eq_true] at h3 ⊢
     exact h3
   | true =>
    rw [hb] at a4
    refine ⟨(r.o, r.x) :: rest, fun e he => ?_, ?_, ?_⟩
    ·rcases List.mem_cons.1 he with rfl | he
     ·exact ⟨r, List.mem_cons_self .., rfl, hb, a4.symm⟩
     ·exact h1' e he
    ·simp only [avL, cOf, rOf, List.filterMap_cons, a1, a3, hb, if_true, if_false, reduceIte] at h2 ⊢
     rw [<- List.append_assoc] at h2 ⊢
     exact (h2.cons _).trans List.perm_middle.symm
    ·simp only [avL, pOf, rOf, List.filterMap_cons, a2, a3, <- a4, if_true, if_false, reduceIte] at h3 ⊢
     rw [<- List.append_assoc] at h3 ⊢
     exact (h3.cons _).trans List.perm_middle.symm
def KV (P : Program) (vs : Nat -> Value) (KL : List (Tmp × List (Nat × Dv))) : List (Tmp × Pr) := KL.map fun e => (e.1, prL P vs e.2)
def addL (d : Option Tmp) (l : List (Nat × Dv)) (KL : List (Tmp × List (Nat × Dv))) : List (Tmp × List (Nat × Dv)) := match d with
 | some t => (t, l) :: KL
 | none => KL
def KLof : List (Oper × List (Nat × Dv)) -> List (Tmp × List (Nat × Dv)) -> List (Tmp × List (Nat × Dv))
 | [], K => K
 | (o, l) :: r, K => KLof r (addL o.dst l K)
def OL (P : Program) (vs : Nat -> Value) (L : List (Oper × List (Nat × Dv))) : List (Oper × Pr) := L.map fun e => (e.1, prL P vs e.2)
section
variable {P : Program} {vs : Nat -> Value}
theorem KV_add {d : Option Tmp} {l : List (Nat × Dv)} {KL : List (Tmp × List (Nat × Dv))} : KV P vs (addL d l KL) = addK d (prL P vs l) (KV P vs KL) := by cases d <;> rfl
theorem KV_of : ∀ (L : List (Oper × List (Nat × Dv))) (KL : List (Tmp × List (Nat × Dv))), KV P vs (KLof L KL) = Kof (OL P vs L) (KV P vs KL)
 | [], KL => rfl
 | (o, l) :: r, KL => by
  show KV P vs (KLof r (addL o.dst l KL)) = Kof (OL P vs r) (addK o.dst (prL P vs l) (KV P vs KL))
  rw [KV_of r, KV_add]
end
def ObB (P : Program) (ops : Array Oper) (we : World) (Se : Nat -> Prop) (mE : List MF) (Γ : List FF) (env0 : Env) (vs : Nat -> Value) (n0 : Nat) (rs : List Rb) (KL : List (Tmp × List (Nat × Dv))) (i : Nat) (o : Oper) (L : List (Nat × Dv)) (I : Oi) : Prop :=
 n0 <= I.lo /\ I.lo <= I.hi /\ (∀ e ∈ L, ∀ p, refO e.2 = some p -> p < I.hi /\ p ∈ I.refs) /\ (∀ e ∈ pOf i rs, e.1 < I.hi) /\
 ∀ vs', (∀ p, p < n0 -> vs' p = vs p) -> ∀ (env : Env) (F : List MF) (G : List FF) (w : World), St we Se (MS vs' (cOf i rs ++ rOf i rs) ++ (mE ++ F)) (fHold (KV P vs' KL) env0 env (o.looksAt ops) :: (Γ ++ G)) w ->
  (wantedE ops env o = true -> OpR P o env w (fun v w' => ∃ vs2, (∀ p, p < I.lo -> vs2 p = vs' p) /\ St we Se (MS vs2 (pOf i rs) ++ (MS vs' (rOf i rs) ++ (mE ++ F))) (resL P vs2 v L ++ (Γ ++ G)) w')) /\
  (wantedE ops env o = false -> cOf i rs = [] /\ pOf i rs = [] /\ ∀ S w, All S (resL P vs' undef L) w)
def ObsB (P : Program) (ops : Array Oper) (we : World) (Se : Nat -> Prop) (mE : List MF) (Γ : List FF) (env0 : Env) (vs : Nat -> Value) (n0 : Nat) (rs : List Rb) : List ((Oper × List (Nat × Dv)) × Oi) -> Nat -> List (Tmp × List (Nat × Dv)) -> Prop
 | [], _, _ => True
 | ((o, L), I) :: r, i, KL => ObB P ops we Se mE Γ env0 vs n0 rs KL i o L I /\ ObsB P ops we Se mE Γ env0 vs n0 rs r (i + 1) (addL o.dst L KL)
theorem ObsB_get {P : Program} {ops : Array Oper} {we : World} {Se : Nat -> Prop} {mE : List MF} {Γ : List FF} {env0 : Env} {vs : Nat -> Value} {n0 : Nat} {rs : List Rb} : ∀ (r : List (Oper × List (Nat × Dv))) (is : List Oi) (n : Nat) (KL : List (Tmp × List (Nat × Dv))) (i : Nat) (x : Oper × List (Nat × Dv)) (I : Oi),
  ObsB P ops we Se mE Γ env0 vs n0 rs (r.zip is) n KL -> r[i]? = some x -> is[i]? = some I -> ObB P ops we Se mE Γ env0 vs n0 rs (KLof (r.take i) KL) (n + i) x.1 x.2 I
 | [], _, _, _, _, _, _, h, hx, _ => by simp at hx
 | _ :: _, [], _, _, _, _, _, _, _, h => by simp at h
 | (o, L) :: r, I0 :: is, n, KL, 0, x, I, h, hx, hc => by simp at hx hc; subst hx; subst hc; exact h.1
 | (o, L) :: r, I0 :: is, n, KL, i + 1, x, I, h, hx, hc => by
  have := ObsB_get r is (n + 1) (addL o.dst L KL) i x I h.2 (by simpa using hx) (by simpa using hc)
  rw [show n + 1 + i = n + (i + 1) by omega] at this
  simpa [KLof] using this
structure ChkP (l : List Oper) (m : Nat) (rs : List Rb) (is : List Oi) : Prop where
 a : ∀ r ∈ rs, ∀ j, r.a = some j -> j < m /\ ∀ i ∈ r.rd, reachB l 16 i j = true
 c : ∀ r ∈ rs, ∀ k, r.c = some k -> k < m /\ (∀ j, r.a = some j -> reachB l 16 k j = true) /\ ∀ i ∈ r.rd, reachB l 16 k i = true
 n : ∀ i I, is[i]? = some I -> ∀ r ∈ rs, I.lo <= r.o -> r.o < I.hi -> ∃ j, r.a = some j /\ (j = i \/ reachB l 16 j i = true)
 f : ∀ i I j J, is[i]? = some I -> is[j]? = some J -> ∀ p ∈ J.refs, I.lo <= p -> p < I.hi -> j = i \/ reachB l 16 j i = true
 uniq : ∀ i j t, i < m -> j < m -> i ≠ j -> (opAt l i).dst = some t -> (opAt l j).dst ≠ some t
theorem chk_parts {l : List Oper} {m : Nat} {rs : List Rb} {is : List Oi} (h : chkB l m rs is = true) : ChkP l m rs is := by
 unfold chkB at h
 rw [Bool.and_eq_true, Bool.and_eq_true] at h
 obtain ⟨⟨hr, hn⟩, hu⟩ := h
 have hn' : ∀ i I, is[i]? = some I -> chkN l i I rs is.zipIdx = true := fun i I hi => List.all_eq_true.1 hn (I, i) (List.mem_zipIdx_iff_getElem?.2 hi)
 have inb : ∀ (I : Oi) (p : Nat), I.lo <= p -> p < I.hi -> inB I p = true := fun I p h1 h2 => by
  unfold inB
  rw [Nat.ble_eq_true_of_le h1, Bool.true_and]
  exact Nat.ble_eq_true_of_le h2
 refine ⟨fun r hrm j hj => ?_, fun r hrm k hk => ?_, fun i I hi r hrm h1 h2 => ?_, fun i I j J hi hj p hp h1 h2 => ?_, fun i j t hi hj hne hti htj => ?_⟩
 ·have := List.all_eq_true.1 hr r hrm
  rw [Bool.and_eq_true] at this
  have := this.1
  rw [hj] at this
  simp only [Bool.and_eq_true, List.all_eq_true] at this
  exact ⟨by have := Nat.le_of_ble_eq_true this.1; omega, this.2⟩
 ·have := List.all_eq_true.1 hr r hrm
  rw [Bool.and_eq_true] at this
  have := this.2
  rw [hk] at this
  simp only [Bool.and_eq_true, List.all_eq_true] at this
  refine ⟨by have := Nat.le_of_ble_eq_true this.1.1; omega, fun j hj => ?_, this.2⟩
  have := this.1.2
  rw [hj] at this
  exact this
 ·have := hn' i I hi
  unfold chkN at this
  rw [Bool.and_eq_true] at this
  have := List.all_eq_true.1 this.1 r hrm
  rw [inb I _ h1 h2, Bool.not_true, Bool.false_or] at this
  split at this
  ·next j hj =>
   rw [Bool.or_eq_true] at this
   exact ⟨j, hj, this.imp beq_t id⟩
  ·cases this
 ·have := hn' i I hi
  unfold chkN at this
  rw [Bool.and_eq_true] at this
  have := List.all_eq_true.1 this.2 (J, j) (List.mem_zipIdx_iff_getElem?.2 hj)
  have := List.all_eq_true.1 this p hp
  rw [inb I _ h1 h2, Bool.not_true, Bool.false_or, Bool.or_eq_true] at this
  exact this.imp beq_t id
 ·have := List.all_eq_true.1 (List.all_eq_true.1 hu i (List.mem_range.2 hi)) j (List.mem_range.2 hj)
  rw [beq_no hne, Bool.false_or, hti] at this
  simp [htj] at this
end Go.Proofs.YtmggkmchbdanfaaGreat
end

section
set_option linter.unusedVariables false
set_option linter.unusedSimpArgs false
namespace Go.Proofs.YtmggkmchbdanfaaGreat
section
variable {P : Program} {N : Nd} {we : World} {Se : Nat -> Prop} {ms : List MF} {Γ : List FF} {Q : Qs} {env0 : Env} {l : List Oper} {m : Nat}
theorem slot_of {Lp : List (Oper × Pr)} (hpre : ∀ i, i < m -> ∃ Φ, Lp[i]? = some (opAt l i, Φ)) (hpre' : ∀ (i : Nat) (x : Oper × Pr), Lp[i]? = some x -> i < m /\ x.1 = opAt l i) {D : Nat -> Bool} {env : Env} {S : Nat -> Prop} {w : World} {i : Nat} {t : Tmp}
  (henv : ∀ t, (∀ i, i < m -> D i = true -> (opAt l i).dst ≠ some t) -> env t = env0 t) (hfa : (fAll Lp D env).p S w) (him : i <= m) (ht : ∀ j, j < m -> (opAt l j).dst = some t -> (D j = true ↔ j < i)) : holdK (Kof (Lp.take i) []) env0 env S w t := by
 unfold holdK
 rcases Kof_find t (Lp.take i) [] with ⟨j, y, g1, g2, g3, g4⟩ | ⟨g1, g2⟩
 ·rw [g4]
  rw [List.getElem?_take] at g1
  split at g1
  ·next hji =>
   obtain ⟨hjm, hy⟩ := hpre' j y g1
   exact hfa j y t ((ht j hjm (hy ▸ g2)).2 hji) g1 g2
  ·cases g1
 ·rw [g2]
  simp only [List.find?_nil]
  refine henv t fun j hj hDj hdj => ?_
  have hji := (ht j hj hdj).1 hDj
  obtain ⟨Φ, hΦ⟩ := hpre j hj
  exact g1 j (opAt l j, Φ) (by rw [List.getElem?_take, if_pos hji]; exact hΦ) hdj
theorem looks_of (hc : drawOK2 l m = true) {Lp : List (Oper × Pr)} (hpre : ∀ i, i < m -> ∃ Φ, Lp[i]? = some (opAt l i, Φ)) (hpre' : ∀ (i : Nat) (x : Oper × Pr), Lp[i]? = some x -> i < m /\ x.1 = opAt l i) {D : Nat -> Bool} {env : Env} {S : Nat -> Prop} {w : World} {i : Nat}
  (him : i < m) (hDi : D i = false) (hedge : ∀ e ∈ (opAt l i).after, Region.binds .any e = true -> D e.on = true) (hdown : ∀ j, D j = true -> ∀ e ∈ (opAt l j).after, Region.binds .any e = true -> D e.on = true)
  (henv : ∀ t, (∀ i, i < m -> D i = true -> (opAt l i).dst ≠ some t) -> env t = env0 t) (hfa : (fAll Lp D env).p S w) : HoldL (Kof (Lp.take i) []) env0 env S w (Oper.looksAt l.toArray (opAt l i)) := by
 obtain ⟨h0, h1, h2, h3, h3'⟩ := draw_parts2 hc
 have hil : i < l.length := by omega
 have hlast : ∀ t, t ∈ Oper.looksAt l.toArray (opAt l i) -> ∀ j, j < m -> (opAt l j).dst = some t -> j ≠ i -> (D j = true ↔ j < i) := by
  intro t ht j hj hjt hne
  have h7 := h2 i j t him hj hne hjt (.inl ht)
  constructor
  ·intro hlj
   rcases Nat.lt_or_ge j i with h | h
   ·exact h
   ·exfalso
    obtain ⟨e, he, hb, hon⟩ := edge_of (h7.2 (by omega))
    have h8 := hdown j hlj e he hb
    rw [hon, hDi] at h8; cases h8
  ·intro hji
   obtain ⟨e, he, hb, hon⟩ := edge_of (h7.1 hji)
   have h8 := hedge e he hb
   rwa [hon] at h8
 exact HoldL_of _ fun t ht => slot_of hpre hpre' henv hfa (by omega) fun j hj hjt => by
  by_cases hji : j = i
  ·subst hji; rw [hDi]; simp
  ·exact hlast t ht j hj hjt hji
def alD (D : Nat -> Bool) (r : Rb) : Bool := (match r.a with
 | none => true
 | some j => D j) && !(match r.c with
 | none => false
 | some k => D k)
theorem reach_edge {D : Nat -> Bool} {i : Nat} (hedge : ∀ e ∈ (opAt l i).after, Region.binds .any e = true -> D e.on = true) (hdown : ∀ j, D j = true -> ∀ e ∈ (opAt l j).after, Region.binds .any e = true -> D e.on = true) : ∀ (f j : Nat), reachB l f i j = true -> D j = true
 | 0, j, h => by
  obtain ⟨e, he, hb, rfl⟩ := edge_of h
  exact hedge e he hb
 | f + 1, j, h => by
  unfold reachB at h
  rw [Bool.or_eq_true] at h
  rcases h with h | h
  ·obtain ⟨e, he, hb, rfl⟩ := edge_of h
   exact hedge e he hb
  ·rw [List.any_eq_true] at h
   obtain ⟨e, he, hb⟩ := h
   rw [Bool.and_eq_true] at hb
   exact reach_D hdown f e.on j (hedge e (Array.mem_toList_iff.1 he) hb.1) hb.2
theorem avL_congr {al al' : Rb -> Bool} : ∀ {rs : List Rb}, (∀ r ∈ rs, al r = al' r) -> avL al rs = avL al' rs
 | [], _ => rfl
 | r :: rs, h => by
  have ih := avL_congr (rs := rs) fun q hq => h q (List.mem_cons_of_mem _ hq)
  unfold avL at ih ⊢
  rw [List.filterMap_cons, List.filterMap_cons, h r (List.mem_cons_self ..), ih]
theorem T_any3 {id : Nat} {mE : List MF} (m : Nat) (Ls : List (List (Nat × Dv))) (is : List Oi) (rs : List Rb) (ts : List Tmp) (vs : Nat -> Value) (n0 : Nat) (hm : P.follows .mixedOrders = true) (hc : drawOK2 l m = true) (hl : Ls.length = m) (hil : is.length = m) (hx : chkB l m rs is = true)
  (hms : MS vs (avL (fun r => r.a.isNone) rs) ++ mE = ms) (hd : (l.all fun o => okDst N.n o.dst) = true) (hobs : ObsB P l.toArray we Se mE Γ env0 vs n0 rs (((l.take m).zip Ls).zip is) 0 [])
  (fin : ∀ (env : Env) (w : World) (vs' : Nat -> Value), (∀ p, p < n0 -> vs' p = vs p) -> St we Se (MS vs' (avL (fun r => r.c.isNone) rs) ++ mE) (fHold (KV P vs' (KLof ((l.take m).zip Ls) [])) env0 env ts :: Γ) w -> WpL P N l.toArray (l.drop m) Q env w) :
  T P N we Se ms Γ (.region id l.toArray true) Q env0 := by
 obtain ⟨h0, h1, h2, h3, h3'⟩ := draw_parts2 hc
 have hp := chk_parts hx
 obtain ⟨L, hL⟩ : ∃ L, L = (l.take m).zip Ls := ⟨_, rfl⟩
 rw [<- hL] at hobs fin
 have hLl : L.length = m := by rw [hL]; simp; omega
 have hpre : ∀ i, i < m -> ∃ x, L[i]? = some (opAt l i, x) := fun i hi => by
  have hil : i < l.length := Nat.lt_of_lt_of_le hi h0
  have hidx : i < Ls.length := hl.symm ▸ hi
  refine ⟨Ls[i]'hidx, ?_⟩
  rw [hL, List.getElem?_zip_eq_some]
  refine ⟨?_, by simp⟩
  rw [List.getElem?_take, if_pos hi]
  simp [opAt, hil]
 have hpre' : ∀ i x, L[i]? = some x -> i < m /\ x.1 = opAt l i := fun i x hx => by
  have hi : i < m := by have := (List.getElem?_eq_some_iff.1 hx).1; omega
  obtain ⟨Φ, h⟩ := hpre i hi
  rw [h] at hx; cases hx; exact ⟨hi, rfl⟩
 have opre : ∀ vs' i, i < m -> ∃ Φ, (OL P vs' L)[i]? = some (opAt l i, Φ) := fun vs' i hi => by
  obtain ⟨x, h⟩ := hpre i hi
  exact ⟨_, by rw [OL, List.getElem?_map, h]; rfl⟩
 have opre' : ∀ vs' (i : Nat) (x : Oper × Pr), (OL P vs' L)[i]? = some x -> i < m /\ x.1 = opAt l i := fun vs' i x hx => by
  rw [OL, List.getElem?_map] at hx
  cases hy : L[i]? with
  | none => rw [hy] at hx; cases hx
  | some y => rw [hy] at hx; cases hx; exact hpre' i y hy
 refine T_inv m (fun D env w => (∀ t, (∀ i, i < m -> D i = true -> (opAt l i).dst ≠ some t) -> env t = env0 t) /\ ∃ vs', (∀ p, p < n0 -> vs' p = vs p) /\ St we Se (MS vs' (avL (alD D) rs) ++ mE) (Γ ++ [fAll (OL P vs' L) D env]) w) hm hc hd ?_ ?_ ?_
 ·intro w hw
  refine ⟨fun t _ => rfl, vs, fun _ _ => rfl, ?_⟩
  have : alD (fun _ => false) = fun r => r.a.isNone := by
   funext r
   unfold alD
   cases r.a <;> cases r.c <;> rfl
  rw [this, hms]
  exact hw.weak fun S w h => All.append h ⟨fun i x t hi => (by cases hi), trivial⟩
 ·rintro D i env w him hDi hlow hedge hdown ⟨henv, vs', hvs, hst⟩
  have hil' : i < l.length := by omega
  obtain ⟨x, hxi⟩ := hpre i him
  obtain ⟨I, hI⟩ : ∃ I, is[i]? = some I := ⟨_, List.getElem?_eq_getElem (by omega)⟩
  obtain ⟨o1, o2, o3, o4, hob⟩ := ObsB_get L is 0 [] i _ I hobs hxi hI
  rw [Nat.zero_add] at hob o4
  have hreach : ∀ j, reachB l 16 i j = true -> D j = true := fun j hj => reach_edge hedge hdown 16 j hj
  have hno : ∀ k, D k = true -> reachB l 16 k i ≠ true := fun k hk hr => by
   have := reach_D hdown 16 k i hk hr
   rw [hDi] at this; cases this
  -- who is alive
  have hcls : ∀ r ∈ rs, (r.c = some i /\ i ∉ r.rd /\ r.a ≠ some i /\ alD D r = true /\ alD (ins D i) r = false) \/ (r.a = some i /\ r.c ≠ some i /\ i ∉ r.rd /\ alD D r = false /\ alD (ins D i) r = true) \/
    (i ∈ r.rd /\ r.c ≠ some i /\ r.a ≠ some i /\ alD D r = true /\ alD (ins D i) r = true) \/ (r.c ≠ some i /\ r.a ≠ some i /\ i ∉ r.rd /\ alD D r = alD (ins D i) r) := by
   intro r hr
   have hself : reachB l 16 i i ≠ true := fun h => by have := hreach i h; rw [hDi] at this; cases this
   have hins : ∀ j, j ≠ i -> ins D i j = D j := fun j hj => ins_ne hj
   by_cases hci : r.c = some i
   ·obtain ⟨c1, c2, c3⟩ := hp.c r hr i hci
    have hrd : i ∉ r.rd := fun h => hself (c3 i h)
    have hai : r.a ≠ some i := fun h => hself (c2 i h)
    refine .inl ⟨hci, hrd, hai, ?_, ?_⟩
    ·unfold alD
     rw [hci]
     simp only [hDi, Bool.not_false, Bool.and_true]
     cases ha : r.a with
     | none => rfl
     | some j => exact hreach j (c2 j ha)
    ·unfold alD
     rw [hci]
     simp only [ins_self, Bool.not_true, Bool.and_false]
   ·by_cases hai : r.a = some i
    ·obtain ⟨a1, a2⟩ := hp.a r hr i hai
     have hrd : i ∉ r.rd := fun h => hself (a2 i h)
     refine .inr (.inl ⟨hai, hci, hrd, ?_, ?_⟩)
     ·unfold alD
      rw [hai]
      simp only [hDi, Bool.false_and]
     ·unfold alD
      rw [hai]
      simp only [ins_self, Bool.true_and]
      cases hcc : r.c with
      | none => rfl
      | some k =>
       simp only
       rw [hins k (fun e => hci (by rw [hcc, e]))]
       cases hDk : D k with
       | false => rfl
       | true => exact absurd ((hp.c r hr k hcc).2.1 i hai) (hno k hDk)
    ·have hgone : ∀ k, r.c = some k -> i ∈ r.rd -> D k = false := fun k hk hi => by
      cases hDk : D k with
      | false => rfl
      | true => exact absurd ((hp.c r hr k hk).2.2 i hi) (hno k hDk)
     have hsame : alD (ins D i) r = alD D r := by
      unfold alD
      cases ha : r.a with
      | none =>
       cases hcc : r.c with
       | none => rfl
       | some k => simp only; rw [hins k (fun e => hci (by rw [hcc, e]))]
      | some j =>
       cases hcc : r.c with
       | none => simp only; rw [hins j (fun e => hai (by rw [ha, e]))]
       | some k => simp only; rw [hins j (fun e => hai (by rw [ha, e])), hins k (fun e => hci (by rw [hcc, e]))]
     by_cases hrd : i ∈ r.rd
     ·have : alD D r = true := by
       unfold alD
       have e1 : (match r.c with | none => false | some k => D k) = false := by
        cases hcc : r.c with
        | none => rfl
        | some k => exact hgone k hcc hrd
       rw [e1]
       simp only [Bool.not_false, Bool.and_true]
       cases ha : r.a with
       | none => rfl
       | some j => exact hreach j ((hp.a r hr j ha).2 i hrd)
      exact .inr (.inr (.inl ⟨hrd, hci, hai, this, hsame.trans this⟩))
     ·exact .inr (.inr (.inr ⟨hci, hai, hrd, hsame.symm⟩))
  obtain ⟨rest, hrest, p1, p2⟩ := av_split hcls
  have hlooks : ∀ S : Nat -> Prop, ∀ w : World, (fAll (OL P vs' L) D env).p S w -> HoldL (KV P vs' (KLof (L.take i) [])) env0 env S w (Oper.looksAt l.toArray (opAt l i)) := fun S w hfa => by
   rw [KV_of]
   have := looks_of hc (opre vs') (opre' vs') him hDi hedge hdown henv hfa
   rw [show OL P vs' (L.take i) = (OL P vs' L).take i by unfold OL; rw [List.map_take]]
   exact this
  have hst2 : St we Se (MS vs' (cOf i rs ++ rOf i rs) ++ (mE ++ MS vs' rest)) (fHold (KV P vs' (KLof (L.take i) [])) env0 env (Oper.looksAt l.toArray (opAt l i)) :: (Γ ++ [fAll (OL P vs' L) D env])) w := by
   refine St.weak (hst.perm ?_) fun S w h => ⟨hlooks S w (All.right (Γ := Γ) h).1, h⟩
   have e1 : (MS vs' (avL (alD D) rs)).Perm (MS vs' (cOf i rs ++ rOf i rs) ++ MS vs' rest) := by
    unfold MS
    rw [<- List.map_append, List.append_assoc]
    exact p1.map _
   refine (List.Perm.append_right mE e1).trans ?_
   rw [List.append_assoc]
   exact List.Perm.append_left _ List.perm_append_comm
  have hob := hob vs' hvs env (MS vs' rest) [fAll (OL P vs' L) D env] w hst2
  have hnew : ∀ (v : Value) (t : Tmp), (∀ i', i' < m -> ins D i i' = true -> (opAt l i').dst ≠ some t) -> put env (opAt l i).dst v t = env0 t := fun v t ht => by
   rw [put_ne (ht i him (ins_self D i))]
   exact henv t fun j hj hDj => ht j hj (ins_old hDj)
  -- behind
  have close : ∀ (v : Value) (w' : World) (vs2 : Nat -> Value), (∀ p, p < I.lo -> vs2 p = vs' p) -> St we Se (MS vs2 (pOf i rs) ++ (MS vs' (rOf i rs) ++ (mE ++ MS vs' rest))) (resL P vs2 v x ++ (Γ ++ [fAll (OL P vs' L) D env])) w' ->
    ∃ vs3, (∀ p, p < n0 -> vs3 p = vs p) /\ St we Se (MS vs3 (avL (alD (ins D i)) rs) ++ mE) (Γ ++ [fAll (OL P vs3 L) (ins D i) (put env (opAt l i).dst v)]) w' := by
   intro v w' vs2 hv2 hs
   have e3 : ∃ vs3 : Nat -> Value, vs3 = fun p => if I.lo <= p /\ p < I.hi then vs2 p else vs' p := ⟨_, rfl⟩
   obtain ⟨vs3, e3⟩ := e3
   have hlow3 : ∀ p, p < I.hi -> vs3 p = vs2 p := fun p hp => by
    rw [e3]
    simp only
    split
    ·rfl
    ·next hc => exact (hv2 p (by omega)).symm
   have hout3 : ∀ p, ¬ (I.lo <= p /\ p < I.hi) -> vs3 p = vs' p := fun p hp => by
    rw [e3]
    exact if_neg hp
   refine ⟨vs3, fun p hp => (hout3 p (by omega)).trans (hvs p hp), ?_⟩
   have hal : ∀ r ∈ rs, alD D r = true -> vs3 r.o = vs' r.o := fun r hr hal => hout3 r.o fun ⟨g1, g2⟩ => by
    obtain ⟨j, hj, hji⟩ := hp.n i I hI r hr g1 g2
    unfold alD at hal
    rw [hj, Bool.and_eq_true] at hal
    rcases hji with rfl | hji
    ·have := hal.1; simp only at this; rw [hDi] at this; cases this
    ·exact hno j hal.1 hji
   have m1 : MS vs3 (pOf i rs) = MS vs2 (pOf i rs) := MS_congr fun e he => hlow3 e.1 (o4 e he)
   have m2 : MS vs3 (rOf i rs) = MS vs' (rOf i rs) := MS_congr fun e he => by
    obtain ⟨r, hr, hre⟩ := List.mem_filterMap.1 he
    split at hre
    ·next hi =>
     cases hre
     rcases hcls r hr with ⟨a1, a2, _⟩ | ⟨a1, a2, a3, _⟩ | ⟨a1, a2, a3, a4, _⟩ | ⟨a1, a2, a3, _⟩
     ·exact absurd hi a2
     ·exact absurd hi a3
     ·exact hal r hr a4
     ·exact absurd hi a3
    ·cases hre
   have m3 : MS vs3 rest = MS vs' rest := MS_congr fun e he => by
    obtain ⟨r, hr, rfl, h1, _⟩ := hrest e he
    exact hal r hr h1
   have hpm : (MS vs3 (avL (alD (ins D i)) rs) ++ mE).Perm (MS vs2 (pOf i rs) ++ (MS vs' (rOf i rs) ++ (mE ++ MS vs' rest))) := by
    rw [<- m1, <- m2, <- m3]
    have e1 : (MS vs3 (avL (alD (ins D i)) rs)).Perm (MS vs3 (pOf i rs) ++ (MS vs3 (rOf i rs) ++ MS vs3 rest)) := by
     unfold MS
     rw [<- List.map_append, <- List.map_append]
     exact p2.map _
    refine (List.Perm.append_right mE e1).trans ?_
    rw [List.append_assoc, List.append_assoc]
    exact List.Perm.append_left _ (List.Perm.append_left _ List.perm_append_comm)
   refine St.weak (hs.perm hpm.symm) fun S w2 h => ?_
   have hΓ := All.right h
   refine All.append (All.left hΓ) ⟨?_, trivial⟩
   have hfa := (All.right hΓ).1
   intro j y t hj hy ht
   rw [OL, List.getElem?_map] at hy
   cases hz : L[j]? with
   | none => rw [hz] at hy; cases hy
   | some z =>
    rw [hz] at hy
    cases hy
    obtain ⟨hjm, hzo⟩ := hpre' j z hz
    by_cases hji : j = i
    ·subst hji
     rw [hxi] at hz
     cases hz
     have ht' : (opAt l j).dst = some t := ht
     show (prL P vs3 x).p S (put env (opAt l j).dst v t) w2
     rw [ht', put_eq]
     intro e he
     have := all_mem.1 (All.left h) _ (List.mem_map.2 ⟨e, he, rfl⟩)
     have hc' : holdC P vs3 e.2 v e.1 = holdC P vs2 e.2 v e.1 := by
      unfold holdC
      simp only [hold_vs (P := P) (vs' := vs3) (vs := vs2) (d := e.2) fun o ho => hlow3 o (o3 e he o ho).1]
     rw [hc']; exact this
    ·rw [ins_ne hji] at hj
     have hne : (opAt l i).dst ≠ some t := hp.uniq j i t hjm him hji (hzo ▸ ht)
     show (prL P vs3 z.2).p S (put env (opAt l i).dst v t) w2
     rw [put_ne hne]
     intro e he
     have := hfa j (z.1, prL P vs' z.2) t hj (by rw [OL, List.getElem?_map, hz]; rfl) ht
     have := this e he
     obtain ⟨J, hJ⟩ : ∃ J, is[j]? = some J := ⟨_, List.getElem?_eq_getElem (by omega)⟩
     obtain ⟨_, _, q3, _, _⟩ := ObsB_get L is 0 [] j _ J hobs hz hJ
     have hc' : holdC P vs3 e.2 (env t) e.1 = holdC P vs' e.2 (env t) e.1 := by
      unfold holdC
      simp only [hold_vs (P := P) (vs' := vs3) (vs := vs') (d := e.2) fun o ho => hout3 o fun ⟨g1, g2⟩ => by
       rcases hp.f i I j J hI hJ o (q3 e he o ho).2 g1 g2 with h | h
       ·exact hji h
       ·exact hno j hj h]
     rw [hc']; exact this
  refine ⟨fun hw => (hob.1 hw).mono fun v w' ⟨vs2, hv2, hs⟩ => ⟨hnew v, close v w' vs2 hv2 hs⟩, fun hw => ⟨hnew undef, ?_⟩⟩
  obtain ⟨g1, g2, g3⟩ := hob.2 hw
  refine close undef w vs' (fun _ _ => rfl) ?_
  rw [g1, List.nil_append] at hst2
  rw [g2]
  refine St.weak (show St we Se (MS vs' [] ++ (MS vs' (rOf i rs) ++ (mE ++ MS vs' rest))) _ w from hst2) fun S w h => All.append (g3 S w) h.2
 ·rintro D env w hall hlow ⟨henv, vs', hvs, hst⟩
  refine fin env w vs' hvs ?_
  have hav : avL (alD D) rs = avL (fun r => r.c.isNone) rs := by
   refine avL_congr fun r hr => ?_
   have : alD D r = r.c.isNone := by
    unfold alD
    have e1 : (match r.a with | none => true | some j => D j) = true := by
     cases ha : r.a with
     | none => rfl
     | some j => exact hall j (hp.a r hr j ha).1
    rw [e1]
    cases hcc : r.c with
    | none => rfl
    | some k => simp only [hall k (hp.c r hr k hcc).1]; rfl
   exact this
  rw [hav] at hst
  refine hst.weak fun S w h => ⟨?_, All.left h⟩
  refine HoldL_of ts fun t _ => ?_
  have := slot_of (i := m) (t := t) (opre vs') (opre' vs') henv (All.right (Γ := Γ) h).1 (Nat.le_refl m) fun j hj _ => ⟨fun _ => hj, fun _ => hall j hj⟩
  rw [KV_of]
  rwa [List.take_of_length_le (by unfold OL; rw [List.length_map]; omega)] at this
end
end Go.Proofs.YtmggkmchbdanfaaGreat
end

