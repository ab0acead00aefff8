/- Part 6 of 11 of the proof: the lemmas and contracts of PTot3 .. TR5. -/
import Derived.Test.YtbjaehfboanglaaGreatDoorWAE
set_option linter.unusedVariables false
set_option linter.unusedSimpArgs false
namespace Go.AL
open Go
set_option maxRecDepth 4000
theorem upd_arity (s:Set') (i:Nat) (b:Bool):(Set'.upd s i b).arity = s.arity:=rfl
theorem eBits {R:Type} {f:Nat→Int→Set'→Option Set'} (n:Nat) (hn:n < 4611686018427387904) (a:Set') (hf:∀ i:Nat,i < n→∀ s:Set',s.arity = a.arity→Ev (fun t=>t.arity = a.arity) (fun F=>f F i s)) :
  Ev (OnS (R:=R) (fun t=>t.arity = a.arity) (fun _=>False)) (fun F=>runs (fun (s:Int×Set')=>
  (bif decide (s.1 < (n:Int)) then (f F s.1 s.2).bind fun p=>some (Out.next (w64 (s.1 + 1),p)) else some (Out.exit s.2):Option (Out (Int×Set') Set' R))) F (0,a)):=by
 refine Ev.loop (T:=Set') n (fun i t=>((i:Int),t)) (fun _ t=>t.arity = a.arity) rfl rfl (fun i t hi ht=>Ev.dt (Int.ofNat_lt.2 hi) (Ev.bind (hf i hi t ht) (fun p hp=>Ev.pure ⟨p,by rw [w64_succ (by omega)],hp⟩))) (fun t ht=>Ev.df (Int.lt_irrefl _) (Ev.pure ht))
theorem e325 (a b:Set'):Ev (fun r=>r.arity = a.arity) (fun F=>m325 F a b):=by
 unfold m325
 refine Ev.bindS (fun t=>t.arity = a.arity) (fun _=>False) (eBits (f:=fun F z s=>(inr z 64).bind fun y4=>bif s.has y4 then (inr z 64).bind fun y5=>some (Set'.upd s y5 true) else (inr z 64).bind fun y6=>(inr z 64).bind fun y7=>some (Set'.upd s y7 (b.has y6))) 64 (by omega) a (fun i hi s hs=>?_)) (fun x hx=>Ev.pure hx) (fun _ h=>h.elim)
 have h0:(0:Int)≤i:=by omega
 have h1:(i:Int) < (64:Nat):=by omega
 exact Ev.bind (Ev.inr h0 h1) (fun _ _=>Ev.ite (fun _=>Ev.bind (Ev.inr h0 h1) (fun _ _=>Ev.pure hs)) (fun _=>Ev.bind (Ev.inr h0 h1) (fun _ _=>Ev.bind (Ev.inr h0 h1) (fun _ _=>Ev.pure hs))))
theorem e326 (a b:Set'):Ev (fun r=>r.arity = a.arity) (fun F=>m326 F a b):=by
 unfold m326
 refine Ev.bindS (fun t=>t.arity = a.arity) (fun _=>False) (eBits (f:=fun F z s=>(inr z 64).bind fun y4=>bif s.has y4 then (inr z 64).bind fun y5=>(inr z 64).bind fun y6=>some (Set'.upd s y6 (b.has y5)) else (inr z 64).bind fun y7=>some (Set'.upd s y7 false)) 64 (by omega) a (fun i hi s hs=>?_)) (fun x hx=>Ev.pure hx) (fun _ h=>h.elim)
 have h0:(0:Int)≤i:=by omega
 have h1:(i:Int) < (64:Nat):=by omega
 exact Ev.bind (Ev.inr h0 h1) (fun _ _=>Ev.ite (fun _=>Ev.bind (Ev.inr h0 h1) (fun _ _=>Ev.bind (Ev.inr h0 h1) (fun _ _=>Ev.pure hs))) (fun _=>Ev.bind (Ev.inr h0 h1) (fun _ _=>Ev.pure hs)))
theorem e324 (sp:Spec) (h:SpOk sp) (k:Int):Ev (fun r=>r.arity = k) (fun F=>m324 F sp k):=by
 have h1:=h.sorts
 unfold m324
 refine Ev.bindS (fun t=>t.arity = k) (fun _=>False) ?_ (fun x hx=>Ev.pure hx) (fun _ h=>h.elim)
 refine Ev.loop (T:=Set') sp.sorts.length (fun i t=>((i:Int),t)) (fun _ t=>t.arity = k) rfl rfl (fun i t hi ht=>Ev.dt (Int.ofNat_lt.2 hi) ?_) (fun t ht=>Ev.df (Int.lt_irrefl _) (Ev.pure ht))
 refine Ev.ite (fun _=>?_) (fun _=>?_)
 ·exact Ev.bind (e243 _ (by show 1≤1048576; omega)) (fun y _=>Ev.bind (e325 _ _) (fun z hz=>Ev.pure ⟨z,by rw [w64_succ (by omega)],hz.trans ht⟩))
 ·exact Ev.bind (e243 _ (by show 2≤1048576; omega)) (fun y _=>Ev.bind (e325 _ _) (fun z hz=>Ev.pure ⟨z,by rw [w64_succ (by omega)],hz.trans ht⟩))
theorem e373 (k:Int):Ev (fun r=>(r = 1∧k < 1) ∨ (1≤k∧(r = 4 ∨ r = 16 ∨ r = 64))) (fun F=>m373 F k):=by
 unfold m373
 refine Ev.dec (fun h=>Ev.pure (.inl ⟨rfl,h⟩)) (fun h=>Ev.ite (fun _=>Ev.pure (.inr ⟨by omega,.inl rfl⟩)) (fun _=>Ev.ite (fun _=>Ev.pure (.inr ⟨by omega,.inr (.inl rfl)⟩)) (fun _=>Ev.pure (.inr ⟨by omega,.inr (.inr rfl)⟩))))
theorem Ev.remO {a b:Int} (h:b ≠ 0):Ev (fun r=>r = a.tmod b) (fun _=>Go.AL.remO a b):=⟨_,rfl,0,fun _ _=>by simp [Go.AL.remO,beq_eq_false_iff_ne.2 h]⟩
theorem Ev.quoO {a b:Int} (h:b ≠ 0):Ev (fun r=>r = w64 (a.tdiv b)) (fun _=>Go.AL.quoO a b):=⟨_,rfl,0,fun _ _=>by simp [Go.AL.quoO,beq_eq_false_iff_ne.2 h]⟩
theorem tdiv_le {a b:Int} (ha:0≤a) (hb:0 < b):0≤a.tdiv b∧a.tdiv b≤a:=by
 rw [Int.tdiv_eq_ediv_of_nonneg ha]
 exact ⟨Int.ediv_nonneg ha (by omega),Int.ediv_le_self b ha⟩
theorem tmod_rng {a b:Int} (ha:0≤a) (hb:0 < b):0≤a.tmod b∧a.tmod b < b:=by
 rw [Int.tmod_eq_emod_of_nonneg ha]
 exact ⟨Int.emod_nonneg _ (by omega),Int.emod_lt_of_pos _ hb⟩
theorem e327 (a b:Set') (hb:1≤b.arity):Ev (fun r=>r.arity = w64 (w64 (a.arity + b.arity) - 2)) (fun F=>m327 F a b):=by
 unfold m327
 refine Ev.bind (e373 b.arity) (fun y1 hy1=>?_)
 have hy:y1 = 4 ∨ y1 = 16 ∨ y1 = 64:=by rcases hy1 with h | h; omega; exact h.2
 obtain ⟨q,hq,hq1,hq2⟩:∃ q:Int,w64 (Int.tdiv y1 4) = q∧1≤q∧q≤16:=by
  rcases hy with rfl | rfl | rfl
  ·exact ⟨1,rfl,by omega,by omega⟩
  ·exact ⟨4,rfl,by omega,by omega⟩
  ·exact ⟨16,rfl,by omega,by omega⟩
 rw [hq]
 refine Ev.bindS (fun t=>t.arity = w64 (w64 (a.arity + b.arity) - 2)) (fun _=>False) ?_ (fun x hx=>Ev.pure hx) (fun _ h=>h.elim)
 refine Ev.runs (fun s=>0≤s.1∧s.1≤64∧s.2.arity = w64 (w64 (a.arity + b.arity) - 2)) (fun s=>(64 - s.1).toNat) ⟨Int.le_refl _,by show (0:Int)≤64; omega,rfl⟩ (fun s hs=>?_)
 obtain ⟨h1,h2,h3⟩:=hs
 refine Ev.bind (e373 a.arity) (fun y5 hy5=>Ev.dec (fun hlt=>?_) (fun _=>Ev.pure h3))
 have h4:s.1 < 64:=by rcases hy5 with ⟨h,_⟩ | ⟨_,h | h | h⟩ <;> omega
 refine Ev.bindS (fun t=>t.arity = w64 (w64 (a.arity + b.arity) - 2)) (fun _=>False) ?_ (fun x hx=>Ev.pure ⟨⟨?_,?_,hx⟩,?_⟩) (fun _ h=>h.elim)
 ·refine Ev.runs (fun s=>0≤s.1∧s.1≤64∧s.2.arity = w64 (w64 (a.arity + b.arity) - 2)) (fun s=>(64 - s.1).toNat) ⟨Int.le_refl _,by show (0:Int)≤64; omega,h3⟩ (fun t ht=>?_)
  obtain ⟨k1,k2,k3⟩:=ht
  refine Ev.bind (e373 b.arity) (fun y9 hy9=>Ev.dec (fun hlt2=>?_) (fun _=>Ev.pure k3))
  have k4:t.1 < 64:=by rcases hy9 with ⟨h,_⟩ | ⟨_,h | h | h⟩ <;> omega
  refine Ev.bind (Ev.remO (by omega)) (fun y10 hy10=>?_)
  have r1:=tmod_rng k1 (show 0 < q by omega)
  rw [← hy10] at r1
  have r2:=tdiv_le h1 (show (0:Int) < 4 by omega)
  have r3:w64 (Int.tdiv s.1 4) = Int.tdiv s.1 4:=w64_id (by omega) (by omega)
  have r4:0≤Int.tdiv s.1 4 * q:=Int.mul_nonneg r2.1 (by omega)
  have r5:Int.tdiv s.1 4 * q≤64 * 16:=Int.mul_le_mul (by omega) hq2 (by omega) (by omega)
  have r6:w64 (Int.tdiv s.1 4 * q) = Int.tdiv s.1 4 * q:=w64_id (by omega) (by omega)
  have r7:w64 (Int.tdiv s.1 4 * q + y10) = Int.tdiv s.1 4 * q + y10:=w64_id (by omega) (by omega)
  rw [r3,r6,r7]
  have hnx:w64 (t.1 + 1) = t.1 + 1:=w64_id (by omega) (by omega)
  refine Ev.bind (P:=fun p=>p = true→Int.tdiv s.1 4 * q + y10 < 64) ?_ (fun p hp=>?_)
  ·refine Ev.bind (Ev.inr h1 (by omega)) (fun _ _=>Ev.ite (fun _=>Ev.bind (Ev.inr k1 (by omega)) (fun _ _=>Ev.ite (fun _=>Ev.bind (Ev.quoO (by omega)) (fun _ _=>Ev.ite (fun _=>Ev.pure (fun h=>of_decide_eq_true h)) (fun _=>Ev.pure (fun h=>by cases h)))) (fun _=>Ev.pure (fun h=>by cases h)))) (fun _=>Ev.pure (fun h=>by cases h)))
  ·refine Ev.ite (fun h=>Ev.bind (Ev.inr (by omega) (by have:=hp h; omega)) (fun z _=>Ev.pure ⟨⟨?_,?_,k3⟩,?_⟩)) (fun _=>Ev.pure ⟨⟨?_,?_,k3⟩,?_⟩) <;> (simp only [hnx]; omega)
 all_goals
  have hnx:w64 (s.1 + 1) = s.1 + 1:=w64_id (by omega) (by omega)
  simp only [hnx]; omega
theorem e328 (a b:Set'):Ev (fun r=>r.arity = w64 (a.arity + b.arity)) (fun F=>m328 F a b):=by
 unfold m328
 refine Ev.bind (e373 b.arity) (fun y1 hy1=>?_)
 have hy:1≤y1∧y1≤64:=by rcases hy1 with ⟨h,_⟩ | ⟨_,h | h | h⟩ <;> omega
 refine Ev.bindS (fun t=>t.arity = w64 (a.arity + b.arity)) (fun _=>False) ?_ (fun x hx=>Ev.pure hx) (fun _ h=>h.elim)
 refine Ev.runs (fun s=>0≤s.1∧s.1≤64∧s.2.arity = w64 (a.arity + b.arity)) (fun s=>(64 - s.1).toNat) ⟨Int.le_refl _,by show (0:Int)≤64; omega,rfl⟩ (fun s hs=>?_)
 obtain ⟨h1,h2,h3⟩:=hs
 refine Ev.bind (e373 a.arity) (fun y5 hy5=>Ev.dec (fun hlt=>?_) (fun _=>Ev.pure h3))
 have h4:s.1 < 64:=by rcases hy5 with ⟨h,_⟩ | ⟨_,h | h | h⟩ <;> omega
 refine Ev.bindS (fun t=>t.arity = w64 (a.arity + b.arity)) (fun _=>False) ?_ (fun x hx=>Ev.pure ⟨⟨?_,?_,hx⟩,?_⟩) (fun _ h=>h.elim)
 ·refine Ev.runs (fun s=>0≤s.1∧s.1≤64∧s.2.arity = w64 (a.arity + b.arity)) (fun s=>(64 - s.1).toNat) ⟨Int.le_refl _,by show (0:Int)≤64; omega,h3⟩ (fun t ht=>?_)
  obtain ⟨k1,k2,k3⟩:=ht
  refine Ev.dec (fun hlt2=>?_) (fun _=>Ev.pure k3)
  have k4:t.1 < 64:=by omega
  have r4:0≤s.1 * y1:=Int.mul_nonneg h1 (by omega)
  have r5:s.1 * y1≤64 * 64:=Int.mul_le_mul (by omega) hy.2 (by omega) (by omega)
  have r6:w64 (s.1 * y1) = s.1 * y1:=w64_id (by omega) (by omega)
  have r7:w64 (s.1 * y1 + t.1) = s.1 * y1 + t.1:=w64_id (by omega) (by omega)
  rw [r6,r7]
  have hnx:w64 (t.1 + 1) = t.1 + 1:=w64_id (by omega) (by omega)
  refine Ev.bind (P:=fun p=>p = true→s.1 * y1 + t.1 < 64) ?_ (fun p hp=>?_)
  ·refine Ev.bind (Ev.inr h1 (by omega)) (fun _ _=>Ev.ite (fun _=>Ev.bind (Ev.inr k1 (by omega)) (fun _ _=>Ev.ite (fun _=>Ev.pure (fun h=>of_decide_eq_true h)) (fun _=>Ev.pure (fun h=>by cases h)))) (fun _=>Ev.pure (fun h=>by cases h)))
  ·refine Ev.ite (fun h=>Ev.bind (Ev.inr (by omega) (by have:=hp h; omega)) (fun z _=>Ev.pure ⟨⟨?_,?_,k3⟩,?_⟩)) (fun _=>Ev.pure ⟨⟨?_,?_,k3⟩,?_⟩) <;> (simp only [hnx]; omega)
 all_goals
  have hnx:w64 (s.1 + 1) = s.1 + 1:=w64_id (by omega) (by omega)
  simp only [hnx]; omega
theorem e329 (a:Set'):Ev (fun r=>r.arity = 2) (fun F=>m329 F a):=by
 unfold m329
 refine Ev.bindS (fun t=>t.arity = 2) (fun _=>False) ?_ (fun x hx=>Ev.pure hx) (fun _ h=>h.elim)
 refine Ev.loop (T:=Set') 16 (fun i t=>((i:Int),t)) (fun _ t=>t.arity = 2) rfl rfl (fun i t hi ht=>Ev.dt (show (i:Int) < 16 by omega) ?_) (fun t ht=>Ev.df (Int.lt_irrefl _) (Ev.pure ht))
 have h0:(0:Int)≤i:=by omega
 have r1:=tmod_rng h0 (show (0:Int) < 4 by omega)
 have r2:=tdiv_le h0 (show (0:Int) < 4 by omega)
 have r0:Int.tdiv (i:Int) 4≤3:=by
  rw [Int.tdiv_eq_ediv_of_nonneg h0]; omega
 refine Ev.bind (Ev.inr h0 (by omega)) (fun y _=>Ev.bind (Ev.inr ?_ ?_) (fun z _=>Ev.pure ⟨Set'.upd t z (a.has y),by rw [w64_succ (by omega)],ht⟩))
 all_goals
  rw [w64_id (x:=Int.tmod (i:Int) 4 * 4) (by omega) (by omega),w64_id (x:=Int.tdiv (i:Int) 4) (by omega) (by omega),w64_id (by omega) (by omega)]
  omega
theorem e330 (a:Set') (ha:1≤a.arity):Ev (fun r=>r.arity = a.arity) (fun F=>m330 F a):=by
 unfold m330
 refine Ev.bindS (fun t=>t.arity = a.arity) (fun _=>False) ?_ (fun x hx=>Ev.pure hx) (fun _ h=>h.elim)
 refine Ev.loop (T:=Set') 4 (fun i t=>((i:Int),t)) (fun _ t=>t.arity = a.arity) rfl rfl (fun i t hi ht=>Ev.dt (show (i:Int) < 4 by omega) ?_) (fun t ht=>Ev.df (Int.lt_irrefl _) (Ev.pure ht))
 exact Ev.bind (e327 t t (by omega)) (fun y _=>Ev.bind (e325 t y) (fun z hz=>Ev.pure ⟨z,by rw [w64_succ (by omega)],by rw [hz]; exact ht⟩))
end Go.AL
namespace Go.AL
open Go
set_option maxRecDepth 4000
theorem Ev.idx0 {α:Type} {a:α} {l:List α}:Ev (fun y=>y = a) (fun _=>Go.AL.idx (a :: l) 0):=⟨a,rfl,0,fun _ _=>rfl⟩
theorem Ev.idx1 {α:Type} {a b:α} {l:List α}:Ev (fun y=>y = b) (fun _=>Go.AL.idx (a :: b :: l) 1):=⟨b,rfl,0,fun _ _=>rfl⟩
def KSets (n:Node) (l:List Set'):Prop:=l.length = n.kids.length∧∀ (i:Nat) k s,n.kids[i]? = some k→l[i]? = some s→isE k→Ar s
theorem KSets.one {n:Node} {l:List Set'} (h:KSets n l) {a:Node} (hk:n.kids = [a]) (ha:isE a):∃ x,l = [x]∧Ar x:=by
 obtain ⟨h1,h2⟩:=h
 rw [hk] at h1 h2
 match l,h1 with
 | [x],_=>exact ⟨x,rfl,h2 0 a x rfl rfl ha⟩
theorem KSets.two {n:Node} {l:List Set'} (h:KSets n l) {a b:Node} (hk:n.kids = [a,b]) (ha:isE a) (hb:isE b):∃ x y,l = [x,y]∧Ar x∧Ar y:=by
 obtain ⟨h1,h2⟩:=h
 rw [hk] at h1 h2
 match l,h1 with
 | [x,y],_=>exact ⟨x,y,rfl,h2 0 a x rfl rfl ha,h2 1 b y rfl rfl hb⟩
theorem e287 (sp:Spec) (h:SpOk sp) (n:Node) (hk:KOk n) (hn:n.op = 2→1≤n.n∧n.n≤3) (l:List Set') (hl:KSets n l):Ev (fun r=>r.2 = true→isE n→n.op ≠ 1→n.op ≠ 15→Ar r.1) (fun F=>m287 F sp n l):=by
 unfold m287
 refine Ev.ite (fun h1=>Ev.pure (fun _ _ _ _=>hn (by simpa using h1))) (fun h2=>?_)
 refine Ev.ite (fun _=>Ev.bind (e324 sp h 1) (fun y hy=>Ev.pure (fun _ _ _ _=>by constructor <;> (rw [hy]; decide)))) (fun h3=>?_)
 refine Ev.ite (fun _=>Ev.bind (e324 sp h 2) (fun y hy=>Ev.pure (fun _ _ _ _=>by constructor <;> (rw [hy]; decide)))) (fun h4=>?_)
 refine Ev.ite (fun h1=>?_) (fun h5=>?_)
 ·obtain ⟨a,ha,hE⟩:=hk.one (.inl (by simpa using h1))
  obtain ⟨x,rfl,hx⟩:=hl.one ha hE
  exact Ev.bind Ev.idx0 (fun y hy=>Ev.pure (fun _ _ _ _=>by rw [hy]; exact hx))
 refine Ev.bind (P:=fun p=>(p = true→n.op = 6 ∨ n.op = 14)∧(p = false→n.op ≠ 6∧n.op ≠ 14)) (Ev.ite (fun h=>Ev.pure ⟨fun _=>.inl (by simpa using h),fun h2=>by rw [h] at h2; cases h2⟩) (fun h=>Ev.pure ⟨fun h2=>.inr (by simpa using h2),fun h2=>⟨by simpa using h,by simpa using h2⟩⟩)) (fun p hp=>?_)
 refine Ev.ite (fun h1=>?_) (fun h6=>?_)
 ·obtain ⟨a,b,ha,hE,hE2⟩:=hk.two (by rcases hp.1 h1 with h | h <;> omega)
  obtain ⟨x,y,rfl,hx,hy⟩:=hl.two ha hE hE2
  exact Ev.bind Ev.idx0 (fun u hu=>Ev.bind Ev.idx1 (fun v hv=>Ev.bind (e325 u v) (fun z hz=>Ev.bind Ev.idx0 (fun _ _=>Ev.bind Ev.idx1 (fun _ _=>Ev.pure (fun _ _ _ _=>by constructor <;> (show _≤_; rw [hz,hu]; first | exact hx.1 | exact hx.2)))))))
 refine Ev.ite (fun h1=>?_) (fun h7=>?_)
 ·obtain ⟨a,b,ha,hE,hE2⟩:=hk.two (by simp at h1; omega)
  obtain ⟨x,y,rfl,hx,hy⟩:=hl.two ha hE hE2
  exact Ev.bind Ev.idx0 (fun u hu=>Ev.bind Ev.idx1 (fun v hv=>Ev.bind (e326 u v) (fun z hz=>Ev.bind Ev.idx0 (fun _ _=>Ev.bind Ev.idx1 (fun _ _=>Ev.pure (fun _ _ _ _=>by constructor <;> (show _≤_; rw [hz,hu]; first | exact hx.1 | exact hx.2)))))))
 refine Ev.ite (fun h1=>?_) (fun h8=>?_)
 ·obtain ⟨a,b,ha,hE,hE2⟩:=hk.two (by simp at h1; omega)
  obtain ⟨x,y,rfl,hx,hy⟩:=hl.two ha hE hE2
  exact Ev.bind Ev.idx0 (fun u hu=>Ev.bind Ev.idx0 (fun _ _=>Ev.bind Ev.idx1 (fun _ _=>Ev.pure (fun _ _ _ _=>by rw [hu]; exact hx))))
 refine Ev.bind (P:=fun p=>(p = true→n.op = 32 ∨ n.op = 33)) (Ev.ite (fun h=>Ev.pure (fun _=>.inl (by simpa using h))) (fun h=>Ev.pure (fun h2=>.inr (by simpa using h2)))) (fun p2 hp2=>?_)
 refine Ev.ite (fun h1=>?_) (fun _=>?_)
 ·have ho:=hp2 h1
  obtain ⟨a,b,ha,hE,hE2⟩:=hk.two (by omega)
  obtain ⟨x,y,rfl,hx,hy⟩:=hl.two ha hE hE2
  exact Ev.bind Ev.idx0 (fun u hu=>Ev.bind Ev.idx1 (fun _ _=>Ev.pure (fun _ he _ _=>absurd he.2 (by omega))))
 refine Ev.ite (fun h1=>?_) (fun h9=>?_)
 ·obtain ⟨a,b,ha,hE,hE2⟩:=hk.two (by simp at h1; omega)
  obtain ⟨x,y,rfl,hx,hy⟩:=hl.two ha hE hE2
  refine Ev.bind Ev.idx0 (fun u hu=>Ev.bind Ev.idx1 (fun v hv=>Ev.bind Ev.idx0 (fun u' hu'=>Ev.bind Ev.idx1 (fun v' hv'=>?_))))
  subst hu hv hu' hv'
  refine Ev.bind (e327 u' v' hy.1) (fun z hz=>?_)
  refine Ev.bind (P:=fun q=>q.2 = z∧(q.1 = true→Ar z)) (Ev.dec (fun g1=>Ev.pure ⟨rfl,fun g2=>?_⟩) (fun _=>Ev.pure ⟨rfl,fun h=>by cases h⟩)) (fun q hq=>Ev.pure (fun h _ _ _=>by show Ar q.2; rw [hq.1]; exact hq.2 h))
  have:=of_decide_eq_true g2
  constructor <;> (rw [hz]; assumption)
 refine Ev.ite (fun h1=>?_) (fun h10=>?_)
 ·obtain ⟨a,b,ha,hE,hE2⟩:=hk.two (by simp at h1; omega)
  obtain ⟨x,y,rfl,hx,hy⟩:=hl.two ha hE hE2
  refine Ev.bind Ev.idx0 (fun u hu=>Ev.bind Ev.idx1 (fun v hv=>?_))
  subst hu hv
  refine Ev.bind (e328 u v) (fun z hz=>Ev.bind Ev.idx0 (fun u' hu'=>Ev.bind Ev.idx1 (fun v' hv'=>Ev.pure (fun hd _ _ _=>?_))))
  subst hu' hv'
  have hd:=of_decide_eq_true hd
  have e:w64 (u'.arity + v'.arity) = u'.arity + v'.arity:=by
   have:=hx.1; have:=hx.2; have:=hy.1; have:=hy.2
   exact w64_id (by omega) (by omega)
  rw [e] at hz hd
  have:=hx.1; have:=hy.1
  constructor <;> (show _≤_; rw [hz]; omega)
 refine Ev.ite (fun h1=>?_) (fun h11=>?_)
 ·obtain ⟨a,ha,hE⟩:=hk.one (by simp at h1; omega)
  obtain ⟨x,rfl,hx⟩:=hl.one ha hE
  exact Ev.bind Ev.idx0 (fun y hy=>Ev.bind (e329 y) (fun z hz=>Ev.bind Ev.idx0 (fun _ _=>Ev.pure (fun _ _ _ _=>by constructor <;> (show _≤_; rw [hz]; decide)))))
 refine Ev.ite (fun h1=>?_) (fun h12=>?_)
 ·obtain ⟨a,ha,hE⟩:=hk.one (by simp at h1; omega)
  obtain ⟨x,rfl,hx⟩:=hl.one ha hE
  refine Ev.bind Ev.idx0 (fun y hy=>?_)
  subst hy
  exact Ev.bind (e330 y hx.1) (fun z hz=>Ev.bind Ev.idx0 (fun _ _=>Ev.pure (fun _ _ _ _=>by constructor <;> (show _≤_; rw [hz]; first | exact hx.1 | exact hx.2))))
 refine Ev.ite (fun h1=>?_) (fun h13=>Ev.pure (fun _ he e1 e15=>?_))
 ·obtain ⟨a,ha,hE⟩:=hk.one (by simp at h1; omega)
  obtain ⟨x,rfl,hx⟩:=hl.one ha hE
  refine Ev.bind Ev.idx0 (fun y hy=>?_)
  subst hy
  exact Ev.bind (e330 y hx.1) (fun z hz=>Ev.bind (e324 sp h 2) (fun u _=>Ev.bind (e325 z u) (fun v hv=>Ev.bind Ev.idx0 (fun _ _=>Ev.pure (fun _ _ _ _=>by constructor <;> (show _≤_; rw [hv,hz]; first | exact hx.1 | exact hx.2))))))
 ·exfalso
  have q:=hp.2 h6
  have:=he.1; have:=he.2
  simp at h2 h3 h4 h5 h7 h8 h9 h10 h11 h12 h13
  omega
def EnvOk (env:List Var):Prop:=∀ x ∈ env,Ar x.set
theorem e222:∀ (k:Nat) (n:Node),nsz n≤k→nsz n≤LIM→WFn n→∀ (v:View),SpSm v.sp→SpOk v.sp→∀ (env:List Var),EnvOk env→env.length + nsz n≤1000000000→∀ d,Ev (fun r=>r.2.err = 0→isE n→Ar r.1) (fun F=>m222n F (F - d) v env n):=by
 intro k
 induction k with
 | zero=>intro n h; have:=nsz_pos n; omega
 | succ k ih=>
  intro n hk hl hw v hs ho env he hen d
  have hlen:=nsz_len n
  have hl':=hl
  simp only [LIM] at hl'
  have ihk:∀ y ∈ n.kids,∀ v':View,v'.sp = v.sp→∀ (env':List Var),EnvOk env'→env'.length≤env.length + 1→Ev (fun r=>r.2.err = 0→isE y→Ar r.1) (fun F=>m222n F (F - (d + 1)) v' env' y):=fun y hy v' hv' env' he' hen'=>by
   have hlt:=nsz_kid hy
   obtain ⟨_,_,hkids⟩:=hw
   exact ih y (by omega) (by simp only [LIM]; omega) (hkids y hy) v' (by rw [hv']; exact hs) (by rw [hv']; exact ho) env' he' (by omega) (d + 1)
  obtain ⟨hk1,hk2,hk3⟩:=hw
  have hp:v.sp.preds.length≤LIM:=hs.preds
  have hp':v.sp.preds.length≤8:=ho.preds
  refine Ev.congr (d + 1) (g:=fun F=>m222p F (m222n F (F - (d + 1))) (m285p F (m222n F (F - (d + 1)))) (m286p F (m222n F (F - (d + 1)))) v env n) (fun F hF=>?_) ?_
  ·obtain ⟨j,rfl⟩:∃ j,F = d + 1 + j:=⟨F - (d + 1),by omega⟩
   rw [show d + 1 + j - d = j + 1 by omega,show d + 1 + j - (d + 1) = j by omega]
   rfl
  have kidsLoop:∀ v':View,v'.sp = v.sp→Ev (OnS (fun l=>KSets n l) (fun (r:Set'×Diag)=>r.2.err ≠ 0)) (fun F=>runs (fun (s24:Int×List Set')=>
    (bif decide (s24.1 < (n.kids.length:Int)) then
    (idx n.kids s24.1).bind fun y27=>
    (m222n F (F - (d + 1)) v' env y27).bind fun y28=>
    bif (y28.2.err != 0) then
    some (Out.ret (((Set'.mk 0 fun _=>false),y28.2)))
    else
    (app s24.2 ([y28.1])).bind fun y29=>
    some (Out.next (w64 (s24.1 + 1),y29))
    else
    some (Out.exit (s24.2)):Option (Out (Int×List Set') (List Set') (Set'×Diag)))) F (0,[])):=fun v' hv'=>by
   refine Ev.loop (T:=List Set') n.kids.length (fun i t=>((i:Int),t)) (fun i t=>t.length = i∧∀ (j:Nat) k s,n.kids[j]? = some k→t[j]? = some s→isE k→Ar s) rfl ⟨rfl,fun j k s _ h=>by simp at h⟩ (fun i t hi ht=>Ev.dt (Int.ofNat_lt.2 hi) ?_) (fun t ht=>Ev.df (Int.lt_irrefl _) (Ev.pure ht))
   refine Ev.bind (Ev.idxN hi) (fun y hy=>?_)
   refine Ev.bind (ihk y (List.mem_of_getElem? hy) v' hv' env he (by omega)) (fun z hz=>?_)
   refine Ev.ite (fun h=>Ev.pure (show z.2.err ≠ 0 by simpa using h)) (fun h=>?_)
   refine Ev.bind (Ev.app (by rw [ht.1]; simp; omega)) (fun u hu=>Ev.pure ⟨u,by rw [w64_succ (by omega)],?_,fun j k s hk hs he=>?_⟩)
   ·rw [hu]; simp [ht.1]
   ·rw [hu] at hs
    rcases Nat.lt_or_ge j t.length with hj | hj
    ·rw [List.getElem?_append_left hj] at hs
     exact ht.2 j k s hk hs he
    ·rw [List.getElem?_append_right hj] at hs
     have hj0:j = i:=by
      have:=(List.getElem?_eq_some_iff.1 hs).1
      simp at this
      omega
     subst hj0
     rw [hy] at hk; cases hk
     rw [ht.1] at hs
     simp at hs
     subst hs
     exact hz (by simpa using h) he
  unfold m222p
  refine Ev.bind (P:=TT) ?_ (fun p3 _=>?_)
  ·refine Ev.ite (fun _=>Ev.bind (e282 n.op) (fun y _=>Ev.ite (fun _=>Ev.pure trivial) (fun _=>Ev.ite (fun _=>Ev.bind (e283 v.sp hp _ _ _) (fun _ _=>Ev.pure trivial)) (fun _=>Ev.pure trivial)))) (fun _=>Ev.pure trivial)
  refine Ev.ite (fun _=>Ev.pure (fun h=>by cases h)) (fun _=>?_)
  refine Ev.ite (fun _=>Ev.bind (e284 v hs ho env (by omega) he n) (fun y hy=>Ev.pure (fun h _=>hy h))) (fun h1=>?_)
  refine Ev.ite (fun h47=>?_) (fun h47=>?_)
  ·
   refine Ev.bind (P:=TT) ?_ (fun y _=>Ev.pure (fun _ hE=>absurd hE.2 (by simp at h47; omega)))
   unfold m285p
   refine Ev.bind (e152 v.sp hp v.calls n.name) (fun y1 hy1=>?_)
   refine Ev.dec (fun _=>Ev.bind (e152 v.sp hp _ n.name) (fun _ _=>Ev.dec (fun _=>Ev.pure trivial) (fun _=>Ev.pure trivial))) (fun hy0=>?_)
   obtain ⟨pi,rfl,hpi⟩:∃ i:Nat,y1 = i∧i < v.sp.preds.length:=by rcases hy1 with h | h; omega; exact h
   refine Ev.bind (Ev.idxN hpi) (fun y3 hy3=>?_)
   have hpar:=ho.params y3 (List.mem_of_getElem? hy3)
   refine Ev.ite (fun _=>Ev.pure trivial) (fun hkl=>?_)
   have hkl:n.kids.length = y3.params.length:=by simp at hkl; omega
   refine Ev.bindS TT TT ?_ (fun _ _=>Ev.pure trivial) (fun _ _=>Ev.pure trivial)
   refine Ev.each (n:=y3.params.length) (by omega) TT trivial (fun i hi _=>?_) (fun _=>trivial)
   refine Ev.bind (Ev.idxN (by omega)) (fun y7 hy7=>?_)
   refine Ev.bind (ihk y7 (List.mem_of_getElem? hy7) ⟨v.sp,v.temp,v.calls,true⟩ rfl env he (by omega)) (fun y8 _=>?_)
   refine Ev.ite (fun _=>Ev.pure trivial) (fun _=>Ev.ite (fun _=>Ev.pure trivial) (fun _=>?_))
   refine Ev.bindS TT TT ?_ (fun _ _=>Ev.pure ⟨rfl,trivial⟩) (fun _ _=>Ev.pure trivial)
   refine Ev.each (n:=4) (by omega) TT trivial (fun j hj _=>?_) (fun _=>trivial)
   refine Ev.bind (Ev.inr (by omega) (by omega)) (fun y12 _=>?_)
   refine Ev.bind (P:=TT) (Ev.ite (fun _=>Ev.bind (Ev.idxN hi) (fun _ _=>Ev.pure trivial)) (fun _=>Ev.pure trivial)) (fun _ _=>?_)
   exact Ev.ite (fun _=>Ev.pure trivial) (fun _=>Ev.pure ⟨rfl,trivial⟩)
  refine Ev.bind (P:=fun p=>(p = true→n.op = 15 ∨ n.op = 45 ∨ n.op = 46)∧(p = false→n.op ≠ 15)) (Ev.ite (fun h=>Ev.pure ⟨fun _=>.inl (by simpa using h),fun h2=>by rw [h] at h2; cases h2⟩) (fun h=>Ev.ite (fun h2=>Ev.pure ⟨fun _=>.inr (.inl (by simpa using h2)),fun _=>by simpa using h⟩) (fun _=>Ev.pure ⟨fun h=>.inr (.inr (by simpa using h)),fun _=>by simpa using h⟩))) (fun p7 hp7=>?_)
  refine Ev.ite (fun hb=>?_) (fun hb=>?_)
  ·
   obtain ⟨a,b,hab,hEa⟩:=hk1.ef (hp7.1 hb)
   refine Ev.bind (P:=fun r=>r.2.err = 0→Ar r.1) ?_ (fun y hy=>Ev.pure (fun h _=>hy h))
   unfold m286p
   have ha:a ∈ n.kids:=by rw [hab]; simp
   have hbm:b ∈ n.kids:=by rw [hab]; simp
   rw [hab]
   refine Ev.bind (P:=TT) (Ev.ite (fun _=>Ev.pure trivial) (fun _=>Ev.pure trivial)) (fun p1 _=>?_)
   refine Ev.bind Ev.idx0 (fun y3 hy3=>?_)
   subst hy3
   refine Ev.bind (ihk y3 ha ⟨v.sp,v.temp,v.calls,p1⟩ rfl env he (by omega)) (fun y4 hy4=>?_)
   refine Ev.ite (fun h=>Ev.pure (fun h2=>by rw [show y4.2.err = 0 from h2] at h; cases h)) (fun h4=>?_)
   refine Ev.ite (fun _=>Ev.pure (fun h=>by cases h)) (fun har=>?_)
   have har1:Ar y4.1:=hy4 (by simpa using h4) hEa
   refine Ev.bind (Ev.app (by simp; omega)) (fun y5 hy5=>Ev.bind (Ev.app (by rw [hy5]; simp; omega)) (fun y6 hy6=>?_))
   refine Ev.bind Ev.idx1 (fun y7 hy7=>?_)
   subst hy7
   refine Ev.bind (ihk y7 hbm ⟨v.sp,v.temp,v.calls,p1⟩ rfl y6 ?_ ?_) (fun y8 _=>Ev.pure (fun _=>har1))
   ·intro x hx
    rw [hy6,hy5] at hx
    rcases List.mem_append.1 hx with hx | hx
    ·exact he x (by simpa using hx)
    ·obtain rfl:=List.mem_singleton.1 hx
     exact har1
   ·rw [hy6,hy5]; simp
  refine Ev.bind (P:=TT) (Ev.ite (fun _=>Ev.pure trivial) (fun _=>Ev.pure trivial)) (fun p10 _=>?_)
  have h15:=hp7.2
  refine Ev.ite (fun _=>?_) (fun _=>?_)
  ·refine Ev.bindS (fun l=>KSets n l) (fun r=>r.2.err ≠ 0) (kidsLoop ⟨v.sp,v.temp,v.calls,true⟩ rfl) (fun x hx=>?_) (fun r hr=>Ev.pure (fun h=>absurd h hr))
   exact Ev.bind (e287 v.sp ho n hk1 hk2 x hx) (fun y hy=>Ev.ite (fun _=>Ev.pure (fun h=>by cases h)) (fun ht=>Ev.pure (fun _ hE=>hy (by simpa using ht) hE (by simpa using h1) (h15 hb))))
  ·refine Ev.bindS (fun l=>KSets n l) (fun r=>r.2.err ≠ 0) (kidsLoop v rfl) (fun x hx=>?_) (fun r hr=>Ev.pure (fun h=>absurd h hr))
   exact Ev.bind (e287 v.sp ho n hk1 hk2 x hx) (fun y hy=>Ev.ite (fun _=>Ev.pure (fun h=>by cases h)) (fun ht=>Ev.pure (fun _ hE=>hy (by simpa using ht) hE (by simpa using h1) (h15 hb))))
end Go.AL
namespace Go.AL
open Go
set_option maxRecDepth 4000
theorem e288 (sp:Spec) (hs:sp.preds.length≤LIM) (known:List Bool):∀ (k:Nat) (n:Node),nsz n≤k→nsz n≤LIM→∀ d,Tot (fun F=>m288n F (F - d) sp known n):=by
 intro k
 induction k with
 | zero=>intro n h; have:=nsz_pos n; omega
 | succ k ih=>
  intro n hk hl d
  have hlen:=nsz_len n
  have hl':=hl
  simp only [LIM] at hl'
  refine Ev.congr (d + 1) (g:=fun F=>m288p F (m288n F (F - (d + 1))) sp known n) (fun F hF=>?_) ?_
  ·obtain ⟨j,rfl⟩:∃ j,F = d + 1 + j:=⟨F - (d + 1),by omega⟩
   rw [show d + 1 + j - d = j + 1 by omega,show d + 1 + j - (d + 1) = j by omega]
   rfl
  unfold m288p
  refine Ev.bind (P:=TT) (Ev.bind (e282 n.op) (fun _ _=>Ev.ite (fun _=>Ev.pure trivial) (fun _=>Ev.ite (fun _=>Ev.bind (e283 sp hs _ _ _) (fun _ _=>Ev.pure trivial)) (fun _=>Ev.pure trivial)))) (fun p _=>?_)
  refine Ev.ite (fun _=>Ev.pure trivial) (fun _=>?_)
  refine Ev.bindS TT TT (Ev.each (n:=n.kids.length) (by omega) TT trivial (fun i hi _=>?_) (fun _=>trivial)) (fun _ _=>Ev.pure trivial) (fun _ _=>Ev.pure trivial)
  refine Ev.bind (Ev.idxN hi) (fun y hy=>?_)
  have:=nsz_kid (List.mem_of_getElem? hy)
  exact Ev.bind (ih y (by omega) (by simp only [LIM]; omega) (d + 1)) (fun _ _=>Ev.ite (fun _=>Ev.pure trivial) (fun _=>Ev.pure ⟨rfl,trivial⟩))
theorem e223 (sp:Spec) (hs:SpSm sp) (h:SpOk sp):Tot (fun F=>m223 F sp):=by
 have h1:=h.preds
 unfold m223
 refine Ev.bindS TT (fun _=>False) ?_ (fun _ _=>Ev.pure trivial) (fun _ h=>h.elim)
 refine Ev.loop (T:=List Bool) sp.preds.length (fun i t=>((i:Int),t)) (fun i t=>t.length = i) rfl rfl (fun i t hi ht=>Ev.dt (Int.ofNat_lt.2 hi) ?_) (fun t ht=>Ev.df (Int.lt_irrefl _) (Ev.pure trivial))
 refine Ev.bind (Ev.idxN hi) (fun y hy=>?_)
 refine Ev.bind (e288 sp hs.preds t _ y.body (Nat.le_refl _) (hs.pbody y (List.mem_of_getElem? hy)) 0) (fun z _=>?_)
 exact Ev.bind (Ev.app (show t.length + 1 < _ by omega)) (fun u hu=>Ev.pure ⟨u,by rw [w64_succ (by omega)],by rw [hu]; simp [ht]⟩)
theorem e224 (l:List Param) (hl:l.length≤8):Ev (fun r=>EnvOk r∧r.length≤8) (fun F=>m224 F l):=by
 unfold m224
 refine Ev.bindS (fun r=>EnvOk r∧r.length≤8) (fun _=>False) ?_ (fun x hx=>Ev.pure hx) (fun _ h=>h.elim)
 refine Ev.loop (T:=List Var) l.length (fun i t=>((i:Int),t)) (fun i t=>EnvOk t∧t.length = i) rfl ⟨fun x hx=>by simp at hx,rfl⟩ (fun i t hi ht=>Ev.dt (Int.ofNat_lt.2 hi) ?_) (fun t ht=>Ev.df (Int.lt_irrefl _) (Ev.pure ⟨ht.1,by show t.length≤8; omega⟩))
 refine Ev.bind (Ev.idxN hi) (fun y _=>Ev.bind (Ev.idxN hi) (fun z _=>Ev.bind (e243 [z.sort] (by show 1≤1048576; omega)) (fun s hs=>?_)))
 refine Ev.bind (Ev.app (show t.length + 1 < _ by omega)) (fun u hu=>Ev.pure ⟨u,by rw [w64_succ (by omega)],fun x hx=>?_,by rw [hu]; simp [ht.2]⟩)
 rw [hu] at hx
 rcases List.mem_append.1 hx with hx | hx
 ·exact ht.1 x hx
 ·obtain rfl:=List.mem_singleton.1 hx
  constructor <;> (show _≤_; rw [hs]; simp)
theorem e153 (sp:Spec) (hs:SpSm sp) (h:SpOk sp) (calls:Int) (env:List Param) (he:env.length≤8) (n:Node) (hn:nsz n≤LIM) (hw:WFn n):Tot (fun F=>m153 F sp calls env n):=by
 unfold m153
 refine Ev.bind (P:=TT) (Ev.pure trivial) (fun _ _=>Ev.ite (fun _=>Ev.pure trivial) (fun _=>?_))
 refine Ev.bind (e223 sp hs h) (fun y2 _=>Ev.bind (e224 env he) (fun y3 hy3=>?_))
 have hn':=hn
 simp only [LIM] at hn'
 exact Ev.bind (e222 _ n (Nat.le_refl _) hn hw ⟨sp,y2,calls,false⟩ hs h y3 hy3.1 (by have:=hy3.2; omega) 0) (fun _ _=>Ev.pure trivial)
theorem e98 (sp:Spec) (hs:SpSm sp) (h:SpOk sp) (i:Nat) (hi:i < sp.preds.length):Ev (fun r=>r.length≤10) (fun F=>m98 F sp i):=by
 have h1:=h.preds
 unfold m98
 refine Ev.bind (Ev.idxN hi) (fun y1 hy1=>Ev.bind (e152 sp hs.preds _ _) (fun y2 _=>?_))
 have hm:=List.mem_of_getElem? hy1
 have hpar:=h.params y1 hm
 refine Ev.bind (P:=fun p=>p.length≤1) (Ev.dec (fun _=>Ev.bind (Ev.app (show 0 + 1 < _ by omega)) (fun z hz=>Ev.pure (by rw [hz]; simp))) (fun _=>Ev.pure (by simp))) (fun p5 hp5=>?_)
 refine Ev.bind (Ev.idxN hi) (fun y7 hy7=>?_)
 rw [hy1] at hy7; cases hy7
 refine Ev.bindS (fun r=>r.length≤9) (fun _=>False) ?_ (fun x hx=>?_) (fun _ h=>h.elim)
 ·refine Ev.loop (T:=List Diag) y1.params.length (fun i t=>((i:Int),t)) (fun i t=>t.length≤i + 1) rfl (by omega) (fun i t hi ht=>Ev.dt (Int.ofNat_lt.2 hi) ?_) (fun t ht=>Ev.df (Int.lt_irrefl _) (Ev.pure (by show t.length≤9; omega)))
  refine Ev.bindS TT (fun _=>False) (eDup (f:=fun F z=>(idx y1.params z).bind fun y14=>(idx y1.params (i:Int)).bind fun y15=>some (y14.name.toList == y15.name.toList)) i (by omega) (fun j hj=>?_)) (fun b _=>?_) (fun _ h=>h.elim)
  ·exact Ev.bind (Ev.idxN (by omega)) (fun y _=>Ev.bind (Ev.idxN hi) (fun z _=>Ev.pure trivial))
  ·refine Ev.ite (fun _=>Ev.bind (Ev.app (by show t.length + 1 < _; omega)) (fun z hz=>Ev.pure ⟨z,by rw [w64_succ (by omega)],by rw [hz]; simp; omega⟩)) (fun _=>Ev.pure ⟨t,by rw [w64_succ (by omega)],by omega⟩)
 refine Ev.bind (Ev.idxN hi) (fun y27 hy27=>?_)
 rw [hy1] at hy27; cases hy27
 refine Ev.bind (e153 sp hs h _ _ hpar _ (hs.pbody y1 hm) (h.pbody y1 hm)) (fun y28 _=>?_)
 refine Ev.bind (P:=fun r=>r.length≤10) (Ev.ite (fun _=>Ev.bind (Ev.app (by show x.length + 1 < _; omega)) (fun z hz=>Ev.pure (by rw [hz]; simp; omega))) (fun _=>Ev.pure (by omega))) (fun _ h=>Ev.pure h)
theorem e49 (sp:Spec) (hs:SpSm sp) (h:SpOk sp):Tot (fun F=>m49 F sp):=by
 have h1:=h.preds; have h2:=h.facts
 unfold m49
 refine Ev.bind (e97 sp h) (fun y1 hy1=>?_)
 refine Ev.bindS (fun r=>r.length≤90) (fun _=>False) ?_ (fun x hx=>?_) (fun _ h=>h.elim)
 ·refine Ev.loop (T:=List Diag) sp.preds.length (fun i t=>((i:Int),t)) (fun i t=>t.length≤10 * i + 10) rfl (by omega) (fun i t hi ht=>Ev.dt (Int.ofNat_lt.2 hi) ?_) (fun t ht=>Ev.df (Int.lt_irrefl _) (Ev.pure (by show t.length≤90; omega)))
  exact Ev.bind (e98 sp hs h i hi) (fun y hy=>Ev.bind (Ev.app (by show t.length + y.length < _; omega)) (fun z hz=>Ev.pure ⟨z,by rw [w64_succ (by omega)],by rw [hz]; simp; omega⟩))
 refine Ev.bindS TT (fun _=>False) ?_ (fun x hx=>Ev.pure trivial) (fun _ h=>h.elim)
 refine Ev.loop (T:=List Diag) sp.facts.length (fun i t=>((i:Int),t)) (fun i t=>t.length≤2 * i + 90) rfl (by omega) (fun i t hi ht=>Ev.dt (Int.ofNat_lt.2 hi) ?_) (fun t ht=>Ev.df (Int.lt_irrefl _) (Ev.pure trivial))
 refine Ev.bindS TT (fun _=>False) (eDup (f:=fun F z=>(idx sp.facts z).bind fun y14=>(idx sp.facts (i:Int)).bind fun y15=>some (y14.name.toList == y15.name.toList)) i (by omega) (fun j hj=>?_)) (fun b _=>?_) (fun _ h=>h.elim)
 ·exact Ev.bind (Ev.idxN (by omega)) (fun y _=>Ev.bind (Ev.idxN hi) (fun z _=>Ev.pure trivial))
 refine Ev.bind (P:=fun p=>p.length≤2 * i + 91) (Ev.ite (fun _=>Ev.bind (Ev.app (by show t.length + 1 < _; omega)) (fun z hz=>Ev.pure (by rw [hz]; simp; omega))) (fun _=>Ev.pure (by show t.length≤_; omega))) (fun p hp=>?_)
 refine Ev.bind (Ev.idxN hi) (fun y hy=>?_)
 have hm:=List.mem_of_getElem? hy
 refine Ev.bind (P:=TT) (Ev.bind (e153 sp hs h _ _ (by simp) _ (hs.fbody y hm) (h.fbody y hm)) (fun _ _=>Ev.pure trivial)) (fun d _=>?_)
 exact Ev.ite (fun _=>Ev.bind (Ev.app (by show p.length + 1 < _; omega)) (fun z hz=>Ev.pure ⟨z,by rw [w64_succ (by omega)],by rw [hz]; simp; omega⟩)) (fun _=>Ev.pure ⟨p,by rw [w64_succ (by omega)],by omega⟩)
end Go.AL
namespace Go.AL
open Go Go.Proofs
set_option maxRecDepth 10000
set_option maxHeartbeats 4000000
def m157 (F:Nat) (sc:Scope) (arity:Int) (rank:Int):Option (List Int):=
 (bif decide (arity < 0) then
 some (true)
 else
 bif decide (3 < arity) then
 some (true)
 else
 bif decide (rank < 0) then
 some (true)
 else
 (m156 F sc arity).bind fun y1=>
 some (decide (y1≤rank))).bind fun p2=>
 bif p2 then
 some ([])
 else
 (m100 F sc).bind fun y4=>
 (runs (fun (s5:Int×Int×List Int)=>
 (bif decide (0≤s5.2.1) then
 (remO s5.1 y4).bind fun y8=>
 (inr s5.2.1 3).bind fun y9=>
 (updO s5.2.2 y9 y8).bind fun y10=>
 (quoO s5.1 y4).bind fun y11=>
 some (Out.next (y11,w64 (s5.2.1 - 1),y10))
 else
 some (Out.exit (s5.2.2)):Option (Out (Int×Int×List Int) (List Int) (List Int)))) F (rank,w64 (arity - 1),[0,0,0])).bind fun (o14:(List Int) ⊕ (List Int))=>(match o14 with
 | .inl x12=>
 (slcF x12 arity 3).bind fun y15=>
 some y15
 | .inr r16=>some r16)
theorem c157 (F:Nat) (sc:Scope) (arity:Int) (rank:Int) (res:(List Int)) (hm:m157 F sc arity rank = some res) (h:List ABlk):ACall Tryz.prog 157 [sc.av,AV.int .i64 arity,AV.int .i64 rank] h (.ret (AV.vw 1 (res.map (AV.int .i64)))) h:=by
 unfold m157 at hm
 refine ACall.mir 0 Tryz.func157 rfl (.cons (Scope.apart _) (.cons .int (.cons .int .nil))) (nlst rfl) ?_ h
 show SX _ _ _ 50 _ _ _ _
 refine SX.seq (SX.rr rfl ?_)
 refine SX.seq (SX.seq ?_)
 obtain ⟨p2,hj,hm⟩:=bindE hm
 refine SX.join ([(1,AV.int .i64 arity),(2,AV.int .i64 rank),(3,AV.ptr 0 0 0 0),(27,AV.bool p2)]) ([ABlk.row 0 2 [sc.av]]) (SX.region ?_) ?_
 ·refine SOps.rn 2 rfl ?_
  refine SOps.splitM rfl rfl rfl rdNone hj (fun hj=>?_) (fun hj=>?_)
  ·refine SOps.re rfl ?_
   obtain rfl:=oj hj
   exact ⟨rfl,CutTo.sr rfl⟩
  ·refine SOps.rn 3 rfl ?_
   refine SOps.splitM rfl rfl rfl rdNone hj (fun hj=>?_) (fun hj=>?_)
   ·refine SOps.re rfl ?_
    obtain rfl:=oj hj
    exact ⟨rfl,CutTo.sr rfl⟩
   ·refine SOps.rn 3 rfl ?_
    refine SOps.splitM rfl rfl rfl rdNone hj (fun hj=>?_) (fun hj=>?_)
    ·refine SOps.re rfl ?_
     obtain rfl:=oj hj
     exact ⟨rfl,CutTo.sr rfl⟩
    ·refine SOps.rn 3 rfl ?_
     obtain ⟨y1,hy1,hj⟩:=bindE hj
     refine SOps.call rfl rfl rfl rfl rfl (c156 F sc arity y1 hy1 _) rdNone (SOps.re rfl ?_)
     obtain rfl:=oj hj
     exact ⟨rfl,CutTo.sr rfl⟩
 refine SX.condM rfl rfl hm (fun ht hm=>?_) (fun ht hm=>?_)
 ·refine SX.seq (SX.rr rfl (SX.rt ?_))
  obtain rfl:=oj hm
  exact RetQ.mk (vs:=[AV.nils]) rfl .nils
 ·refine SX.sk (SX.seq (SX.rr rfl (SX.seq (SX.rn 1 rfl ?_))))
  obtain ⟨y4,hy4,hm⟩:=bindE hm
  refine SOps.call rfl rfl rfl rfl rfl (c100 F sc y4 hy4 _) rdNone (SOps.re rfl (SX.seq (SX.rr rfl ?_)))
  refine SX.seq (SX.seq ?_)
  refine SX.rr rfl ?_
  obtain ⟨o14,ho14,hm⟩:=bindE hm
  refine SX.forget (al':=[(1,AV.int .i64 arity),(7,AV.hsl 1 0 0 3 (some 3)),(8,AV.int .i64 y4),(9,AV.int .i64 rank),(10,AV.int .i64 (w64 (arity - 1)))]) (leA_of rfl) ?_
  refine SX.iter (fun (s5:Int×Int×List Int) (g6:Unit)=>[(1,AV.int .i64 arity),(7,AV.hsl 1 0 0 3 (some 3)),(8,AV.int .i64 y4),(9,AV.int .i64 s5.1),(10,AV.int .i64 s5.2.1)]) (fun (s5:Int×Int×List Int) (g6:Unit)=>[ABlk.row 0 2 [sc.av],ABlk.row 0 1 (s5.2.2.map (AV.int .i64))]) (fun (x12:List Int) (g13:Unit)=>[(1,AV.int .i64 arity),(7,AV.hsl 1 0 0 3 (some 3))]) (fun (x12:List Int) (g13:Unit)=>[ABlk.row 0 2 [sc.av],ABlk.row 0 1 (x12.map (AV.int .i64))]) (fun r al df h=>Ret Tryz.prog Tryz.f157 (AV.vw 1 (r.map (AV.int .i64))) al df h) () ho14 rfl rfl ?_ ?_ ?_
  ·intro s5 g6 out7 hb
   refine SX.seq (SX.seq ?_)
   refine SX.rr rfl ?_
   refine SX.condM rfl rfl hb (fun ht hb=>?_) (fun ht hb=>?_)
   ·refine SX.sk (SX.seq (SX.block (SX.seq (SX.rn 4 rfl ?_))))
    obtain ⟨y8,hy8,hb⟩:=bindE hb
    refine SOps.light rfl rfl (lightV_rem rfl rfl hy8) rdNone ?_
    obtain ⟨y9,hy9,hb⟩:=bindE hb
    refine SOps.light rfl rfl (lightV_idxM rfl rfl Tryz.underlying28 rfl rfl hy9) rdNone ?_
    obtain ⟨y10,hy10,hb⟩:=bindE hb
    refine SOps.heavy (v:=.poison) rfl rfl (heavyV_upd (f:=(AV.int .i64)) (xs:=s5.2.2) (v:=y8) rfl rfl rfl rfl rfl (fun _=>rfl) (fun _=>rfl) hy10) rdNone (SOps.nil rdNone (SX.rn 2 rfl ?_))
    obtain ⟨y11,hy11,hb⟩:=bindE hb
    refine SOps.light rfl rfl (lightV_quo rfl rfl hy11) rdNone (SOps.re rfl (SX.rr rfl ?_))
    exact eI _ (eI () (aI (ojs hb) (CutTo.sr rfl)))
   ·refine SX.ex ?_
    exact aI rfl (eI _ (eI () (aI (ojs hb) (CutTo.sr rfl))))
  ·intro x12 g13 he
   subst he
   refine SX.seq (SX.rn 2 rfl ?_)
   obtain ⟨y15,hy15,hm⟩:=bindE hm
   refine SOps.light rfl rfl (lightV_slcM (f:=(AV.int .i64)) (xs:=x12) rfl rfl Tryz.underlying28 rfl rfl hy15) rdNone (SOps.re rfl (SX.rt ?_))
   obtain rfl:=oj hm
   exact RetQ.mk (vs:=[AV.hsl 1 0 0 (arity).toNat (some 3)]) rfl (frozen_mut (xs:=x12) rfl hy15 (Nat.le_of_ble_eq_true rfl) (fun _=>.int))
  ·intro r al' df' h' hr hq
   subst hr
   obtain rfl:=oj hm
   exact hq
def m102 (F:Nat) (sc:Scope) (sorts:List Int):Option Rel:=
 (bif decide ((sorts.length:Int) < 1) then
 some (true)
 else
 some (decide (3 < (sorts.length:Int)))).bind fun p1=>
 bif p1 then
 some ((Rel.mk 0 ([])))
 else
 (runs (fun (s3:Int)=>
 (bif decide (s3 < (sorts.length:Int)) then
 (idx sorts s3).bind fun y6=>
 (bif decide (y6 < 0) then
 some (true)
 else
 (idx sorts s3).bind fun y7=>
 some (decide ((sc.atoms.length:Int)≤y7))).bind fun p8=>
 bif p8 then
 some (Out.ret ((Rel.mk 0 ([]))))
 else
 some (Out.next (w64 (s3 + 1)))
 else
 some (Out.exit (())):Option (Out (Int) (Unit) Rel))) F (0)).bind fun (o12:(Unit) ⊕ Rel)=>(match o12 with
 | .inl x10=>
 (runs (fun (s13:Int×List Int)=>
 ((m156 F sc ((sorts.length:Int))).bind fun y16=>
 bif decide (s13.1 < y16) then
 (m157 F sc ((sorts.length:Int)) s13.1).bind fun y17=>
 (m158 F sc y17 sorts).bind fun y18=>
 bif y18 then
 (app s13.2 ([s13.1])).bind fun y19=>
 some (Out.next (w64 (s13.1 + 1),y19))
 else
 some (Out.next (w64 (s13.1 + 1),s13.2))
 else
 some (Out.exit (s13.2)):Option (Out (Int×List Int) (List Int) Rel))) F (0,[])).bind fun (o23:(List Int) ⊕ Rel)=>(match o23 with
 | .inl x21=>
 some ((Rel.mk ((sorts.length:Int)) x21))
 | .inr r24=>some r24)
 | .inr r25=>some r25)
theorem c102 (F:Nat) (sc:Scope) (sorts:List Int) (res:Rel) (hm:m102 F sc sorts = some res) (h:List ABlk):ACall Tryz.prog 102 [sc.av,AV.vw 1 (sorts.map (AV.int .i64))] h (.ret (res.av)) h:=by
 unfold m102 at hm
 refine ACall.mir 1 Tryz.func102 rfl (.cons (Scope.apart _) (.cons (.vw (ApartL.map fun _ _=>.int)) .nil)) (nlst rfl) ?_ h
 show SX _ _ _ 64 _ _ _ _
 refine SX.seq (SX.rr rfl (SX.seq (SX.rn 1 rfl (SOps.light rfl rfl (lightV_len (f:=(AV.int .i64)) (xs:=sorts) rfl rfl Tryz.underlying28 rfl) rdNone (SOps.re rfl ?_)))))
 refine SX.seq (SX.seq ?_)
 obtain ⟨p1,hj,hm⟩:=bindE hm
 refine SX.join ([(1,AV.vw 1 (sorts.map (AV.int .i64))),(2,AV.ptr 1 0 0 0),(4,AV.ptr 2 0 0 0),(5,AV.int .i64 ((sorts.length:Int))),(17,AV.bool p1)]) ([oblk 1 0 (([]).map (AV.int .i64)),ABlk.row 0 2 [sc.av],ABlk.row 0 2 [AV.agg [AV.int .i64 0,AV.nils]]]) (SX.region ?_) ?_
 ·refine SOps.rn 2 rfl ?_
  refine SOps.splitM rfl rfl rfl rdNone hj (fun hj=>?_) (fun hj=>?_)
  ·refine SOps.re rfl ?_
   obtain rfl:=oj hj
   exact ⟨rfl,CutTo.sr rfl⟩
  ·refine SOps.re rfl ?_
   obtain rfl:=oj hj
   exact ⟨rfl,CutTo.sr rfl⟩
 refine SX.condM rfl rfl hm (fun ht hm=>?_) (fun ht hm=>?_)
 ·refine SX.seq (SX.rr rfl (SX.rt ?_))
  obtain rfl:=oj hm
  exact RetQ.mk (vs:=[AV.agg [AV.int .i64 0,AV.nils]]) rfl (.agg (.cons (.apart .int) (.cons .nils .nil)))
 ·refine SX.sk ?_
  refine SX.seq (SX.seq ?_)
  refine SX.rr rfl ?_
  obtain ⟨o12,ho12,hm⟩:=bindE hm
  refine SX.forget (al':=[(1,AV.vw 1 (sorts.map (AV.int .i64))),(2,AV.ptr 1 0 0 0),(4,AV.ptr 2 0 0 0),(5,AV.int .i64 ((sorts.length:Int))),(6,AV.int .i64 0)]) (leA_of rfl) ?_
  refine SX.iter (fun (s3:Int) (g4:Unit)=>[(1,AV.vw 1 (sorts.map (AV.int .i64))),(2,AV.ptr 1 0 0 0),(4,AV.ptr 2 0 0 0),(5,AV.int .i64 ((sorts.length:Int))),(6,AV.int .i64 s3)]) (fun (s3:Int) (g4:Unit)=>[oblk 1 0 (([]).map (AV.int .i64)),ABlk.row 0 2 [sc.av],ABlk.row 0 2 [AV.agg [AV.int .i64 0,AV.nils]]]) (fun (x10:Unit) (g11:Unit)=>[(1,AV.vw 1 (sorts.map (AV.int .i64))),(2,AV.ptr 1 0 0 0),(4,AV.ptr 2 0 0 0),(5,AV.int .i64 ((sorts.length:Int)))]) (fun (x10:Unit) (g11:Unit)=>[oblk 1 0 (([]).map (AV.int .i64)),ABlk.row 0 2 [sc.av],ABlk.row 0 2 [AV.agg [AV.int .i64 0,AV.nils]]]) (fun r al df h=>Ret Tryz.prog Tryz.f102 (r.av) al df h) () ho12 rfl rfl ?_ ?_ ?_
  ·intro s3 g4 out5 hb
   refine SX.seq (SX.seq ?_)
   refine SX.rr rfl ?_
   refine SX.condM rfl rfl hb (fun ht hb=>?_) (fun ht hb=>?_)
   ·refine SX.sk (SX.seq (SX.block (SX.seq ?_)))
    obtain ⟨y6,hy6,hb⟩:=bindE hb
    obtain ⟨p8,hj,hb⟩:=bindE hb
    refine SX.join ([(1,AV.vw 1 (sorts.map (AV.int .i64))),(2,AV.ptr 1 0 0 0),(4,AV.ptr 2 0 0 0),(5,AV.int .i64 ((sorts.length:Int))),(6,AV.int .i64 s3),(38,AV.bool p8)]) ([oblk 1 0 (([]).map (AV.int .i64)),ABlk.row 0 2 [sc.av],ABlk.row 0 2 [AV.agg [AV.int .i64 0,AV.nils]]]) (SX.draw follows_mixed rfl rdNone ?_) ?_
    ·refine PO.rn 2 rfl (PO.light rfl rfl (lightV_idx (f:=(AV.int .i64)) (xs:=sorts) rfl rfl Tryz.underlying28 rfl hy6) (PO.rn 2 rfl ?_))
     refine PO.splitM rfl rfl rfl hj (fun hj=>?_) (fun hj=>?_)
     ·refine PO.re rfl ?_
      obtain rfl:=oj hj
      exact ⟨rfl,CutTo.sr rfl⟩
     ·refine PO.rn 2 rfl ?_
      obtain ⟨y7,hy7,hj⟩:=bindE hj
      refine PO.light rfl rfl (lightV_idx (f:=(AV.int .i64)) (xs:=sorts) rfl rfl Tryz.underlying28 rfl hy7) (PO.rn 3 rfl (PO.light rfl rfl (lightV_len (f:=(AV.int .i64)) (xs:=sc.atoms) rfl rfl Tryz.underlying28 rfl) (PO.re rfl ?_)))
      obtain rfl:=oj hj
      exact ⟨rfl,CutTo.sr rfl⟩
    refine SX.condM rfl rfl hb (fun ht hb=>?_) (fun ht hb=>?_)
    ·refine SX.seq (SX.rr rfl (SX.rt ?_))
     exact eI _ (aI (ojs hb) (Ret.mk (vs:=[AV.agg [AV.int .i64 0,AV.nils]]) rfl (.agg (.cons (.apart .int) (.cons .nils .nil)))))
    ·refine SX.sk (SX.rr rfl ?_)
     exact eI _ (eI () (aI (ojs hb) (CutTo.sr rfl)))
   ·refine SX.ex ?_
    exact aI rfl (eI _ (eI () (aI (ojs hb) (CutTo.sr rfl))))
  ·intro x10 g11 he
   subst he
   refine SX.seq (SX.rr rfl ?_)
   refine SX.seq (SX.seq ?_)
   refine SX.rr rfl ?_
   obtain ⟨o23,ho23,hm⟩:=bindE hm
   refine SX.forget (al':=[(1,AV.vw 1 (sorts.map (AV.int .i64))),(2,AV.ptr 1 0 0 0),(4,AV.ptr 2 0 0 0),(5,AV.int .i64 ((sorts.length:Int))),(7,AV.ptr 3 0 0 0),(8,AV.int .i64 0)]) (leA_of rfl) ?_
   refine SX.iter (fun (s13:Int×List Int) (g14:Nat)=>[(1,AV.vw 1 (sorts.map (AV.int .i64))),(2,AV.ptr 1 0 0 0),(4,AV.ptr 2 0 0 0),(5,AV.int .i64 ((sorts.length:Int))),(7,AV.ptr 3 0 0 0),(8,AV.int .i64 s13.1)]) (fun (s13:Int×List Int) (g14:Nat)=>[oblk 1 g14 (s13.2.map (AV.int .i64)),ABlk.row 0 2 [sc.av],ABlk.row 0 2 [AV.agg [AV.int .i64 0,AV.nils]],ABlk.row 0 2 [AV.agg [AV.int .i64 ((sorts.length:Int)),osl 0 g14 (s13.2.map (AV.int .i64))]]]) (fun (x21:List Int) (g22:Nat)=>[(4,AV.ptr 2 0 0 0),(7,AV.ptr 3 0 0 0)]) (fun (x21:List Int) (g22:Nat)=>[oblk 1 g22 (x21.map (AV.int .i64)),ABlk.row 0 2 [sc.av],ABlk.row 0 2 [AV.agg [AV.int .i64 0,AV.nils]],ABlk.row 0 2 [AV.agg [AV.int .i64 ((sorts.length:Int)),osl 0 g22 (x21.map (AV.int .i64))]]]) (fun r al df h=>Ret Tryz.prog Tryz.f102 (r.av) al df h) (0) ho23 rfl rfl ?_ ?_ ?_
   ·intro s13 g14 out15 hb
    refine SX.seq (SX.seq ?_)
    refine SX.rn 3 rfl ?_
    obtain ⟨y16,hy16,hb⟩:=bindE hb
    refine SOps.call rfl rfl rfl rfl rfl (c156 F sc ((sorts.length:Int)) y16 hy16 _) rdNone (SOps.re rfl ?_)
    refine SX.condM rfl rfl hb (fun ht hb=>?_) (fun ht hb=>?_)
    ·refine SX.sk (SX.seq (SX.block (SX.seq (SX.rn 3 rfl ?_))))
     obtain ⟨y17,hy17,hb⟩:=bindE hb
     refine SOps.call rfl rfl rfl rfl rfl (c157 F sc ((sorts.length:Int)) s13.1 y17 hy17 _) rdNone (SOps.re rfl (SX.seq (SX.rn 3 rfl ?_)))
     obtain ⟨y18,hy18,hb⟩:=bindE hb
     refine SOps.call rfl rfl rfl rfl rfl (c158 F sc y17 sorts y18 hy18 _) rdNone (SOps.nil rdNone ?_)
     refine SX.condM rfl rfl hb (fun ht hb=>?_) (fun ht hb=>?_)
     ·refine SX.rn 1 rfl (SOps.light rfl rfl (lightV_loadC rfl rfl rfl rfl rfl isAgg_osl) rdNone (SOps.rn 2 rfl ?_))
      obtain ⟨y19,hy19,hb⟩:=bindE hb
      refine SOps.growM (f:=(AV.int .i64)) (xs:=s13.2) (ys:=[s13.1]) (b:=0) (g:=g14) rfl rfl rfl rfl rfl rfl rfl rfl rfl (fun _=>rfl) rfl hy19 fun g20=>(SOps.rn 1 rfl (SOps.heavy (v:=.poison) rfl rfl (heavyV_storeC rfl rfl rfl cells_osl rfl (allB solid_osl rfl) rfl) rdNone (SOps.nil rdNone (SX.rr rfl ?_))))
      exact eI _ (eI (g20) (aI (ojs hb) (CutTo.sr rfl)))
     ·refine SX.sk (SX.rr rfl ?_)
      exact eI _ (eI (g14) (aI (ojs hb) (CutTo.sr rfl)))
    ·refine SX.ex ?_
     exact aI rfl (eI _ (eI (g14) (aI (ojs hb) (CutTo.sr rfl))))
   ·intro x21 g22 he
    subst he
    refine SX.seq (SX.rn 1 rfl (SOps.heavy (v:=.poison) rfl rfl (heavyV_storeC rfl rfl rfl rfl rfl (allB rfl (allB solid_osl rfl)) rfl) rdNone (SOps.nil rdNone (SX.rt ?_))))
    obtain rfl:=oj hm
    exact RetQ.mk (vs:=[AV.agg [AV.int .i64 ((sorts.length:Int)),osl 0 g22 (x21.map (AV.int .i64))]]) rfl (.agg (.cons (.apart .int) (.cons (frozen_osl rfl (ApartL.map fun _ _=>.int)) .nil)))
   ·intro r al' df' h' hr hq
    subst hr
    obtain rfl:=oj hm
    exact hq
  ·intro r al' df' h' hr hq
   subst hr
   obtain rfl:=oj hm
   exact hq
def m50 (F:Nat) (sp:Spec) (sc:Scope) (b:List Bound):Option Bool:=
 bif ((b.length:Int) != (sp.fields.length:Int)) then
 some false
 else
 (m100 F sc).bind fun y1=>
 (runs (fun (s2:Int)=>
 (bif decide (s2 < (b.length:Int)) then
 (idx sp.fields s2).bind fun y5=>
 (idx b s2).bind fun y6=>
 (bif (y6.lower.arity != (y5.sorts.length:Int)) then
 some (true)
 else
 (idx b s2).bind fun y7=>
 bif (y7.upper.arity != (y5.sorts.length:Int)) then
 some (true)
 else
 (idx b s2).bind fun y8=>
 (m80 F y1 y8.lower).bind fun y9=>
 bif (!y9) then
 some (true)
 else
 (idx b s2).bind fun y10=>
 (m80 F y1 y10.upper).bind fun y11=>
 some ((!y11))).bind fun p12=>
 bif p12 then
 some (Out.ret false)
 else
 (idx b s2).bind fun y14=>
 (idx b s2).bind fun y15=>
 (m101 F y14.lower y15.upper).bind fun y16=>
 (bif (!y16) then
 some (true)
 else
 (idx b s2).bind fun y17=>
 (idx sp.fields s2).bind fun y18=>
 (m102 F sc y18.sorts).bind fun y19=>
 (m101 F y17.upper y19).bind fun y20=>
 some ((!y20))).bind fun p21=>
 bif p21 then
 some (Out.ret false)
 else
 some (Out.next (w64 (s2 + 1)))
 else
 some (Out.exit (())):Option (Out (Int) (Unit) Bool))) F (0)).bind fun (o25:(Unit) ⊕ Bool)=>(match o25 with
 | .inl x23=>
 some true
 | .inr r26=>some r26)
theorem c50 (F:Nat) (sp:Spec) (sc:Scope) (b:List Bound) (res:Bool) (hm:m50 F sp sc b = some res) (h:List ABlk):ACall Tryz.prog 50 [sp.av,sc.av,AV.vw 4 (b.map Bound.av)] h (.ret (AV.bool res)) h:=by
 unfold m50 at hm
 refine ACall.mir 0 Tryz.func50 rfl (.cons (Spec.apart _) (.cons (Scope.apart _) (.cons (.vw (ApartL.map fun _ _=>(Bound.apart _))) .nil))) (nlst rfl) ?_ h
 show SX _ _ _ 98 _ _ _ _
 refine SX.seq (SX.rr rfl ?_)
 refine SX.seq (SX.seq ?_)
 refine SX.rn 1 rfl (SOps.light rfl rfl (lightV_len (f:=Bound.av) (xs:=b) rfl rfl Tryz.underlying31 rfl) rdNone (SOps.rn 2 rfl (SOps.light rfl rfl (lightV_len (f:=Field.av) (xs:=sp.fields) rfl rfl Tryz.underlying23 rfl) rdNone (SOps.re rfl ?_))))
 refine SX.condM rfl rfl hm (fun ht hm=>?_) (fun ht hm=>?_)
 ·refine SX.seq (SX.rr rfl (SX.rt ?_))
  obtain rfl:=oj hm
  exact RetQ.mk (vs:=[AV.bool false]) rfl (.apart .bool)
 ·refine SX.sk (SX.seq (SX.rn 1 rfl ?_))
  obtain ⟨y1,hy1,hm⟩:=bindE hm
  refine SOps.call rfl rfl rfl rfl rfl (c100 F sc y1 hy1 _) rdNone (SOps.re rfl ?_)
  refine SX.seq (SX.seq ?_)
  refine SX.rr rfl ?_
  obtain ⟨o25,ho25,hm⟩:=bindE hm
  refine SX.forget (al':=[(2,AV.vw 4 (b.map Bound.av)),(3,AV.ptr 0 0 0 0),(4,AV.ptr 1 0 0 0),(7,AV.int .i64 y1),(8,AV.int .i64 0)]) (leA_of rfl) ?_
  refine SX.iter (fun (s2:Int) (g3:Unit)=>[(2,AV.vw 4 (b.map Bound.av)),(3,AV.ptr 0 0 0 0),(4,AV.ptr 1 0 0 0),(7,AV.int .i64 y1),(8,AV.int .i64 s2)]) (fun (s2:Int) (g3:Unit)=>[ABlk.row 0 4 [sp.av],ABlk.row 0 2 [sc.av]]) (fun (x23:Unit) (g24:Unit)=>[]) (fun (x23:Unit) (g24:Unit)=>[ABlk.row 0 4 [sp.av],ABlk.row 0 2 [sc.av]]) (fun r al df h=>Ret Tryz.prog Tryz.f50 (AV.bool r) al df h) () ho25 rfl rfl ?_ ?_ ?_
  ·intro s2 g3 out4 hb
   refine SX.seq (SX.seq ?_)
   refine SX.rn 2 rfl (SOps.light rfl rfl (lightV_len (f:=Bound.av) (xs:=b) rfl rfl Tryz.underlying31 rfl) rdNone (SOps.re rfl ?_))
   refine SX.condM rfl rfl hb (fun ht hb=>?_) (fun ht hb=>?_)
   ·refine SX.sk (SX.seq (SX.block (SX.seq (SX.rn 3 rfl ?_))))
    obtain ⟨y5,hy5,hb⟩:=bindE hb
    refine SOps.light rfl rfl (lightV_idx (f:=Field.av) (xs:=sp.fields) rfl rfl Tryz.underlying23 rfl hy5) rdNone (SOps.rn 2 rfl (SOps.light rfl rfl (lightV_len (f:=(AV.int .i64)) (xs:=y5.sorts) rfl rfl Tryz.underlying28 rfl) rdNone (SOps.re rfl ?_)))
    refine SX.seq (SX.seq ?_)
    obtain ⟨y6,hy6,hb⟩:=bindE hb
    obtain ⟨p12,hj,hb⟩:=bindE hb
    refine SX.join ([(2,AV.vw 4 (b.map Bound.av)),(3,AV.ptr 0 0 0 0),(4,AV.ptr 1 0 0 0),(7,AV.int .i64 y1),(8,AV.int .i64 s2),(68,AV.bool p12)]) ([ABlk.row 0 4 [sp.av],ABlk.row 0 2 [sc.av]]) (SX.region ?_) ?_
    ·refine SOps.rn 2 rfl (SOps.light rfl rfl (lightV_idx (f:=Bound.av) (xs:=b) rfl rfl Tryz.underlying31 rfl hy6) rdNone (SOps.rn 5 rfl ?_))
     refine SOps.splitM rfl rfl rfl rdNone hj (fun hj=>?_) (fun hj=>?_)
     ·refine SOps.re rfl ?_
      obtain rfl:=oj hj
      exact ⟨rfl,CutTo.sr rfl⟩
     ·refine SOps.rn 2 rfl ?_
      obtain ⟨y7,hy7,hj⟩:=bindE hj
      refine SOps.light rfl rfl (lightV_idx (f:=Bound.av) (xs:=b) rfl rfl Tryz.underlying31 rfl hy7) rdNone (SOps.rn 6 rfl ?_)
      refine SOps.splitM rfl rfl rfl rdNone hj (fun hj=>?_) (fun hj=>?_)
      ·refine SOps.re rfl ?_
       obtain rfl:=oj hj
       exact ⟨rfl,CutTo.sr rfl⟩
      ·refine SOps.rn 3 rfl ?_
       obtain ⟨y8,hy8,hj⟩:=bindE hj
       refine SOps.light rfl rfl (lightV_idx (f:=Bound.av) (xs:=b) rfl rfl Tryz.underlying31 rfl hy8) rdNone (SOps.rn 2 rfl ?_)
       obtain ⟨y9,hy9,hj⟩:=bindE hj
       refine SOps.call rfl rfl rfl rfl rfl (c80 F y1 y8.lower y9 hy9 _) rdNone (SOps.rn 2 rfl ?_)
       refine SOps.splitM rfl rfl rfl rdNone hj (fun hj=>?_) (fun hj=>?_)
       ·refine SOps.re rfl ?_
        obtain rfl:=oj hj
        exact ⟨rfl,CutTo.sr rfl⟩
       ·refine SOps.rn 3 rfl ?_
        obtain ⟨y10,hy10,hj⟩:=bindE hj
        refine SOps.light rfl rfl (lightV_idx (f:=Bound.av) (xs:=b) rfl rfl Tryz.underlying31 rfl hy10) rdNone (SOps.rn 2 rfl ?_)
        obtain ⟨y11,hy11,hj⟩:=bindE hj
        refine SOps.call rfl rfl rfl rfl rfl (c80 F y1 y10.upper y11 hy11 _) rdNone (SOps.re rfl ?_)
        obtain rfl:=oj hj
        exact ⟨rfl,CutTo.sr rfl⟩
    refine SX.condM rfl rfl hb (fun ht hb=>?_) (fun ht hb=>?_)
    ·refine SX.seq (SX.rr rfl (SX.rt ?_))
     exact eI _ (aI (ojs hb) (Ret.mk (vs:=[AV.bool false]) rfl (.apart .bool)))
    ·refine SX.sk (SX.seq ?_)
     obtain ⟨y14,hy14,hb⟩:=bindE hb
     obtain ⟨y15,hy15,hb⟩:=bindE hb
     obtain ⟨y16,hy16,hb⟩:=bindE hb
     obtain ⟨p21,hj,hb⟩:=bindE hb
     refine SX.join ([(2,AV.vw 4 (b.map Bound.av)),(3,AV.ptr 0 0 0 0),(4,AV.ptr 1 0 0 0),(7,AV.int .i64 y1),(8,AV.int .i64 s2),(97,AV.bool p21)]) ([ABlk.row 0 4 [sp.av],ABlk.row 0 2 [sc.av]]) (SX.draw follows_mixed rfl rdNone ?_) ?_
     ·refine PO.rn 2 rfl (PO.light rfl rfl (lightV_idx (f:=Bound.av) (xs:=b) rfl rfl Tryz.underlying31 rfl hy14) (PO.rn 4 rfl (PO.light rfl rfl (lightV_idx (f:=Bound.av) (xs:=b) rfl rfl Tryz.underlying31 rfl hy15) (PO.rn 2 rfl (PO.call rfl rfl rfl rfl rfl (c101 F y14.lower y15.upper y16 hy16 _) (PO.rn 1 rfl ?_))))))
      refine PO.splitM rfl rfl rfl hj (fun hj=>?_) (fun hj=>?_)
      ·refine PO.re rfl ?_
       obtain rfl:=oj hj
       exact ⟨rfl,CutTo.sr rfl⟩
      ·refine PO.rn 2 rfl ?_
       obtain ⟨y17,hy17,hj⟩:=bindE hj
       refine PO.light rfl rfl (lightV_idx (f:=Bound.av) (xs:=b) rfl rfl Tryz.underlying31 rfl hy17) (PO.rn 6 rfl ?_)
       obtain ⟨y18,hy18,hj⟩:=bindE hj
       refine PO.light rfl rfl (lightV_idx (f:=Field.av) (xs:=sp.fields) rfl rfl Tryz.underlying23 rfl hy18) (PO.rn 2 rfl ?_)
       obtain ⟨y19,hy19,hj⟩:=bindE hj
       refine PO.call rfl rfl rfl rfl rfl (c102 F sc y18.sorts y19 hy19 _) ?_
       obtain ⟨y20,hy20,hj⟩:=bindE hj
       refine PO.call rfl rfl rfl rfl rfl (c101 F y17.upper y19 y20 hy20 _) (PO.re rfl ?_)
       obtain rfl:=oj hj
       exact ⟨rfl,CutTo.sr rfl⟩
     refine SX.condM rfl rfl hb (fun ht hb=>?_) (fun ht hb=>?_)
     ·refine SX.seq (SX.rr rfl (SX.rt ?_))
      exact eI _ (aI (ojs hb) (Ret.mk (vs:=[AV.bool false]) rfl (.apart .bool)))
     ·refine SX.sk (SX.rr rfl ?_)
      exact eI _ (eI () (aI (ojs hb) (CutTo.sr rfl)))
   ·refine SX.ex ?_
    exact aI rfl (eI _ (eI () (aI (ojs hb) (CutTo.sr rfl))))
  ·intro x23 g24 he
   subst he
   refine SX.seq (SX.rr rfl (SX.rt ?_))
   obtain rfl:=oj hm
   exact RetQ.mk (vs:=[AV.bool true]) rfl (.apart .bool)
  ·intro r al' df' h' hr hq
   subst hr
   obtain rfl:=oj hm
   exact hq
def m11 (F:Nat) (sp:Spec) (sc:Scope) (b:List Bound):Option Bool:=
 (m46 F sp).bind fun y1=>
 (bif (!y1) then
 some (true)
 else
 bif ((b.length:Int) != (sp.fields.length:Int)) then
 some (true)
 else
 (m47 F sp sc).bind fun y2=>
 some ((!y2))).bind fun p3=>
 bif p3 then
 some false
 else
 (runs (fun (s5:Int)=>
 (bif decide (s5 < (b.length:Int)) then
 (idx b s5).bind fun y8=>
 (bif decide (64 < (y8.lower.tuples.length:Int)) then
 some (true)
 else
 (idx b s5).bind fun y9=>
 some (decide (64 < (y9.upper.tuples.length:Int)))).bind fun p10=>
 bif p10 then
 some (Out.ret false)
 else
 some (Out.next (w64 (s5 + 1)))
 else
 some (Out.exit (())):Option (Out (Int) (Unit) Bool))) F (0)).bind fun (o14:(Unit) ⊕ Bool)=>(match o14 with
 | .inl x12=>
 (m48 F sc).bind fun y15=>
 (bif decide (4 < y15) then
 some (true)
 else
 (m49 F sp).bind fun y16=>
 some (decide (0 < (y16.length:Int)))).bind fun p17=>
 bif p17 then
 some false
 else
 (m50 F sp sc b).bind fun y19=>
 some y19
 | .inr r20=>some r20)
theorem c11 (F:Nat) (sp:Spec) (sc:Scope) (b:List Bound) (res:Bool) (hm:m11 F sp sc b = some res) (h:List ABlk):ACall Tryz.prog 11 [sp.av,sc.av,AV.vw 4 (b.map Bound.av)] h (.ret (AV.bool res)) h:=by
 unfold m11 at hm
 refine ACall.mir 0 Tryz.func11 rfl (.cons (Spec.apart _) (.cons (Scope.apart _) (.cons (.vw (ApartL.map fun _ _=>(Bound.apart _))) .nil))) (nlst rfl) ?_ h
 show SX _ _ _ 64 _ _ _ _
 refine SX.seq (SX.rr rfl (SX.seq (SX.rn 1 rfl ?_)))
 obtain ⟨y1,hy1,hm⟩:=bindE hm
 refine SOps.call rfl rfl rfl rfl rfl (c46 F sp y1 hy1 _) rdNone (SOps.re rfl ?_)
 refine SX.seq (SX.seq ?_)
 obtain ⟨p3,hj,hm⟩:=bindE hm
 refine SX.join ([(2,AV.vw 4 (b.map Bound.av)),(3,AV.ptr 0 0 0 0),(4,AV.ptr 1 0 0 0),(26,AV.bool p3)]) ([ABlk.row 0 4 [sp.av],ABlk.row 0 2 [sc.av]]) (SX.region ?_) ?_
 ·refine SOps.rn 2 rfl ?_
  refine SOps.splitM rfl rfl rfl rdNone hj (fun hj=>?_) (fun hj=>?_)
  ·refine SOps.re rfl ?_
   obtain rfl:=oj hj
   exact ⟨rfl,CutTo.sr rfl⟩
  ·refine SOps.rn 1 rfl (SOps.light rfl rfl (lightV_len (f:=Bound.av) (xs:=b) rfl rfl Tryz.underlying31 rfl) rdNone (SOps.rn 2 rfl (SOps.light rfl rfl (lightV_len (f:=Field.av) (xs:=sp.fields) rfl rfl Tryz.underlying23 rfl) rdNone (SOps.rn 2 rfl ?_))))
   refine SOps.splitM rfl rfl rfl rdNone hj (fun hj=>?_) (fun hj=>?_)
   ·refine SOps.re rfl ?_
    obtain rfl:=oj hj
    exact ⟨rfl,CutTo.sr rfl⟩
   ·refine SOps.rn 2 rfl ?_
    obtain ⟨y2,hy2,hj⟩:=bindE hj
    refine SOps.call rfl rfl rfl rfl rfl (c47 F sp sc y2 hy2 _) rdNone (SOps.re rfl ?_)
    obtain rfl:=oj hj
    exact ⟨rfl,CutTo.sr rfl⟩
 refine SX.condM rfl rfl hm (fun ht hm=>?_) (fun ht hm=>?_)
 ·refine SX.seq (SX.rr rfl (SX.rt ?_))
  obtain rfl:=oj hm
  exact RetQ.mk (vs:=[AV.bool false]) rfl (.apart .bool)
 ·refine SX.sk ?_
  refine SX.seq (SX.seq ?_)
  refine SX.rr rfl ?_
  obtain ⟨o14,ho14,hm⟩:=bindE hm
  refine SX.forget (al':=[(2,AV.vw 4 (b.map Bound.av)),(3,AV.ptr 0 0 0 0),(4,AV.ptr 1 0 0 0),(8,AV.int .i64 0)]) (leA_of rfl) ?_
  refine SX.iter (fun (s5:Int) (g6:Unit)=>[(2,AV.vw 4 (b.map Bound.av)),(3,AV.ptr 0 0 0 0),(4,AV.ptr 1 0 0 0),(8,AV.int .i64 s5)]) (fun (s5:Int) (g6:Unit)=>[ABlk.row 0 4 [sp.av],ABlk.row 0 2 [sc.av]]) (fun (x12:Unit) (g13:Unit)=>[(2,AV.vw 4 (b.map Bound.av)),(3,AV.ptr 0 0 0 0),(4,AV.ptr 1 0 0 0)]) (fun (x12:Unit) (g13:Unit)=>[ABlk.row 0 4 [sp.av],ABlk.row 0 2 [sc.av]]) (fun r al df h=>Ret Tryz.prog Tryz.f11 (AV.bool r) al df h) () ho14 rfl rfl ?_ ?_ ?_
  ·intro s5 g6 out7 hb
   refine SX.seq (SX.seq ?_)
   refine SX.rn 2 rfl (SOps.light rfl rfl (lightV_len (f:=Bound.av) (xs:=b) rfl rfl Tryz.underlying31 rfl) rdNone (SOps.re rfl ?_))
   refine SX.condM rfl rfl hb (fun ht hb=>?_) (fun ht hb=>?_)
   ·refine SX.sk (SX.seq (SX.block (SX.seq ?_)))
    obtain ⟨y8,hy8,hb⟩:=bindE hb
    obtain ⟨p10,hj,hb⟩:=bindE hb
    refine SX.join ([(2,AV.vw 4 (b.map Bound.av)),(3,AV.ptr 0 0 0 0),(4,AV.ptr 1 0 0 0),(8,AV.int .i64 s5),(50,AV.bool p10)]) ([ABlk.row 0 4 [sp.av],ABlk.row 0 2 [sc.av]]) (SX.region ?_) ?_
    ·refine SOps.rn 2 rfl (SOps.light rfl rfl (lightV_idx (f:=Bound.av) (xs:=b) rfl rfl Tryz.underlying31 rfl hy8) rdNone (SOps.rn 3 rfl (SOps.light rfl rfl (lightV_len (f:=(AV.int .i64)) (xs:=y8.lower.tuples) rfl rfl Tryz.underlying28 rfl) rdNone (SOps.rn 1 rfl ?_))))
     refine SOps.splitM rfl rfl rfl rdNone hj (fun hj=>?_) (fun hj=>?_)
     ·refine SOps.re rfl ?_
      obtain rfl:=oj hj
      exact ⟨rfl,CutTo.sr rfl⟩
     ·refine SOps.rn 2 rfl ?_
      obtain ⟨y9,hy9,hj⟩:=bindE hj
      refine SOps.light rfl rfl (lightV_idx (f:=Bound.av) (xs:=b) rfl rfl Tryz.underlying31 rfl hy9) rdNone (SOps.rn 3 rfl (SOps.light rfl rfl (lightV_len (f:=(AV.int .i64)) (xs:=y9.upper.tuples) rfl rfl Tryz.underlying28 rfl) rdNone (SOps.re rfl ?_)))
      obtain rfl:=oj hj
      exact ⟨rfl,CutTo.sr rfl⟩
    refine SX.condM rfl rfl hb (fun ht hb=>?_) (fun ht hb=>?_)
    ·refine SX.seq (SX.rr rfl (SX.rt ?_))
     exact eI _ (aI (ojs hb) (Ret.mk (vs:=[AV.bool false]) rfl (.apart .bool)))
    ·refine SX.sk (SX.rr rfl ?_)
     exact eI _ (eI () (aI (ojs hb) (CutTo.sr rfl)))
   ·refine SX.ex ?_
    exact aI rfl (eI _ (eI () (aI (ojs hb) (CutTo.sr rfl))))
  ·intro x12 g13 he
   subst he
   refine SX.seq (SX.seq ?_)
   obtain ⟨y15,hy15,hm⟩:=bindE hm
   obtain ⟨p17,hj,hm⟩:=bindE hm
   refine SX.join ([(2,AV.vw 4 (b.map Bound.av)),(3,AV.ptr 0 0 0 0),(4,AV.ptr 1 0 0 0),(59,AV.bool p17)]) ([ABlk.row 0 4 [sp.av],ABlk.row 0 2 [sc.av]]) (SX.region ?_) ?_
   ·refine SOps.rn 1 rfl (SOps.call rfl rfl rfl rfl rfl (c48 F sc y15 hy15 _) rdNone (SOps.rn 1 rfl ?_))
    refine SOps.splitM rfl rfl rfl rdNone hj (fun hj=>?_) (fun hj=>?_)
    ·refine SOps.re rfl ?_
     obtain rfl:=oj hj
     exact ⟨rfl,CutTo.sr rfl⟩
    ·refine SOps.rn 1 rfl ?_
     obtain ⟨y16,hy16,hj⟩:=bindE hj
     refine SOps.call rfl rfl rfl rfl rfl (c49 F sp y16 hy16 _) rdNone (SOps.light rfl rfl (lightV_len (f:=Diag.av) (xs:=y16) rfl rfl Tryz.underlying106 rfl) rdNone (SOps.re rfl ?_))
     obtain rfl:=oj hj
     exact ⟨rfl,CutTo.sr rfl⟩
   refine SX.condM rfl rfl hm (fun ht hm=>?_) (fun ht hm=>?_)
   ·refine SX.seq (SX.rr rfl (SX.rt ?_))
    obtain rfl:=oj hm
    exact RetQ.mk (vs:=[AV.bool false]) rfl (.apart .bool)
   ·refine SX.sk (SX.seq (SX.rn 3 rfl ?_))
    obtain ⟨y19,hy19,hm⟩:=bindE hm
    refine SOps.call rfl rfl rfl rfl rfl (c50 F sp sc b y19 hy19 _) rdNone (SOps.re rfl (SX.rt ?_))
    obtain rfl:=oj hm
    exact RetQ.mk (vs:=[AV.bool y19]) rfl (.apart .bool)
  ·intro r al' df' h' hr hq
   subst hr
   obtain rfl:=oj hm
   exact hq
end Go.AL
namespace Go.AL
open Go
set_option maxRecDepth 4000
def ScA (l:List Int):Prop:=l.length≤4∧∀ a ∈ l,1≤a∧a≤5
theorem sum_take_succ {l:List Int} {i:Nat} {x:Int} (h:l[i]? = some x):(l.take (i + 1)).sum = (l.take i).sum + x:=by
 rw [List.take_add_one,h]
 simp
theorem sum_rng {l:List Int} (h:ScA l):∀ i:Nat,0≤(l.take i).sum∧(l.take i).sum≤5 * i
 | 0=>by simp
 | i + 1=>by
  have ih:=sum_rng h i
  cases hx:l[i]? with
  | none=>
   have:l.length≤i:=by simpa using hx
   rw [List.take_of_length_le (by omega)]
   rw [List.take_of_length_le (by omega)] at ih
   omega
  | some x=>
   rw [sum_take_succ hx]
   have:=h.2 x (List.mem_of_getElem? hx)
   omega
theorem sum_len {l:List Int} (h:ScA l):0≤l.sum∧l.sum≤20:=by
 have:=sum_rng h l.length
 rw [List.take_length] at this
 have:=h.1
 omega
theorem sum_ge {l:List Int} (h:ScA l):(l.length:Int)≤l.sum:=by
 have key:∀ l:List Int,(∀ a ∈ l,1≤a∧a≤5)→(l.length:Int)≤l.sum:=by
  intro l
  induction l with
  | nil=>intro _; simp
  | cons a l ih=>
   intro hl
   have:=ih (fun x hx=>hl x (by simp [hx]))
   have:=(hl a (by simp)).1
   simp
   omega
 exact key l h.2
theorem e48 (sc:Scope) (h:ScA sc.atoms):Ev (fun r=>r = sc.atoms.sum) (fun F=>m48 F sc):=by
 have h1:=h.1
 unfold m48
 refine Ev.bindS (fun r=>r = sc.atoms.sum) (fun _=>False) ?_ (fun x hx=>Ev.pure hx) (fun _ h=>h.elim)
 refine Ev.loop (T:=Int) sc.atoms.length (fun i t=>(t,(i:Int))) (fun i t=>t = (sc.atoms.take i).sum) rfl (by simp) (fun i t hi ht=>Ev.dt (Int.ofNat_lt.2 hi) ?_) (fun t ht=>Ev.df (Int.lt_irrefl _) (Ev.pure (by show t = _; rw [ht,List.take_length])))
 refine Ev.bind (Ev.idxN hi) (fun y hy=>Ev.pure ⟨_,by rw [w64_succ (by omega)],?_⟩)
 have a:=sum_rng h i
 have b:=h.2 y (List.mem_of_getElem? hy)
 rw [sum_take_succ hy]
 show w64 (t + y) = _
 rw [ht,w64_id (by omega) (by omega)]
theorem e47 (sp:Spec) (sc:Scope) (hs:sp.sorts.length≤LIM) (hsc:sc.atoms.length≤LIM):Ev (fun r=>r = true→sc.atoms.length = sp.sorts.length∧ScA sc.atoms∧1≤sc.steps∧sc.steps≤4∧sc.atoms.sum≤12) (fun F=>m47 F sp sc):=by
 simp only [LIM] at hs hsc
 unfold m47
 refine Ev.bind (P:=fun p=>p = false→sc.atoms.length = sp.sorts.length∧sp.sorts.length≤4∧1≤sc.steps∧sc.steps≤4) ?_ (fun p hp=>?_)
 ·refine Ev.ite (fun _=>Ev.pure (fun h=>by cases h)) (fun h1=>Ev.dec (fun _=>Ev.pure (fun h=>by cases h)) (fun h2=>Ev.dec (fun _=>Ev.pure (fun h=>by cases h)) (fun h3=>Ev.pure (fun h4=>?_))))
  have:=of_decide_eq_false h4
  simp at h1
  omega
 refine Ev.ite (fun _=>Ev.pure (fun h=>by cases h)) (fun hpf=>?_)
 obtain ⟨c1,c2,c3,c4⟩:=hp hpf
 refine Ev.bindS (fun _=>∀ a ∈ sc.atoms,1≤a∧a≤5) (fun r=>r = false) ?_ (fun _ hx=>?_) (fun r hr=>Ev.pure (fun h=>by rw [hr] at h; cases h))
 ·refine Ev.each (n:=sc.atoms.length) (by omega) (fun i=>∀ j,j < i→∀ a,sc.atoms[j]? = some a→1≤a∧a≤5) (fun j hj=>by omega) (fun i hi hA=>?_) allOf
  refine Ev.bind (P:=fun p=>p = false→∃ a,sc.atoms[i]? = some a∧1≤a∧a≤5) ?_ (fun p hp=>?_)
  ·refine Ev.bind (Ev.idxN hi) (fun s hs=>Ev.dec (fun _=>Ev.pure (fun h=>by cases h)) (fun h1=>Ev.bind (Ev.idxN hi) (fun s' hs'=>Ev.pure (fun h2=>?_))))
   rw [hs] at hs'; cases hs'
   have:=of_decide_eq_false h2
   exact ⟨s,hs,by omega,by omega⟩
  refine Ev.ite (fun _=>Ev.pure rfl) (fun hpf=>?_)
  obtain ⟨s,hs,q⟩:=hp hpf
  exact Ev.pure ⟨rfl,stepA hA hs q⟩
 have hA:ScA sc.atoms:=⟨by omega,hx⟩
 exact Ev.bind (e48 sc hA) (fun y hy=>Ev.pure (fun h=>⟨c1,hA,c3,c4,by rw [← hy]; exact of_decide_eq_true h⟩))
theorem e154 (sc:Scope) (h:ScA sc.atoms) (k:Nat):Ev (fun r=>r = (sc.atoms.take k).sum) (fun F=>m154 F sc k):=by
 have h1:=h.1
 unfold m154
 refine Ev.bindS (fun r=>r = (sc.atoms.take k).sum) (fun _=>False) ?_ (fun x hx=>Ev.pure hx) (fun _ h=>h.elim)
 refine Ev.loop (T:=Int) (min k sc.atoms.length) (fun i t=>(t,(i:Int))) (fun i t=>t = (sc.atoms.take i).sum) rfl (by simp) (fun i t hi ht=>?_) (fun t ht=>?_)
 ·refine Ev.bind (P:=fun p=>p = true) (Ev.dt (show (i:Int) < k by omega) (Ev.pure (decide_eq_true (show (i:Int) < sc.atoms.length by omega)))) (fun p hp=>Ev.it hp ?_)
  refine Ev.bind (Ev.idxN (show i < sc.atoms.length by omega)) (fun y hy=>Ev.pure ⟨_,by rw [w64_succ (by omega)],?_⟩)
  have a:=sum_rng h i
  have b:=h.2 y (List.mem_of_getElem? hy)
  rw [sum_take_succ hy]
  show w64 (t + y) = _
  rw [ht,w64_id (by omega) (by omega)]
 ·refine Ev.bind (P:=fun p=>p = false) (Ev.dec (fun _=>Ev.pure (decide_eq_false (show ¬ ((min k sc.atoms.length:Nat):Int) < sc.atoms.length by omega))) (fun _=>Ev.pure rfl)) (fun p hp=>Ev.if hp (Ev.pure ?_))
  show t = _
  rw [ht]
  by_cases hk:k≤sc.atoms.length
  ·rw [Nat.min_eq_left hk]
  ·rw [Nat.min_eq_right (by omega),List.take_length,List.take_of_length_le (by omega)]
theorem e100 (sc:Scope) (h:ScA sc.atoms):Ev (fun r=>r = sc.atoms.sum) (fun F=>m100 F sc):=by
 unfold m100
 exact Ev.bind (e154 sc h sc.atoms.length) (fun y hy=>Ev.pure (by rw [hy,List.take_length]))
def SortedL (l:List Int):Prop:=∀ (i j:Nat) x y,i < j→l[i]? = some x→l[j]? = some y→x < y
theorem e70 (r:Rel) (hl:r.tuples.length≤LIM) (k:Int):Ev (fun b=>(b = true→k ∈ r.tuples)∧(SortedL r.tuples→k ∈ r.tuples→b = true)) (fun F=>m70 F r k):=by
 simp only [LIM] at hl
 unfold m70
 refine Ev.bindS (fun (lo:Int)=>∃ j:Nat,lo = j∧j≤r.tuples.length∧(SortedL r.tuples→(∀ i x,i < j→r.tuples[i]? = some x→x < k)∧∀ i x,j≤i→r.tuples[i]? = some x→k≤x)) (fun _=>False) ?_ (fun x hx=>?_) (fun _ h=>h.elim)
 ·refine Ev.runs (fun s=>∃ lo hi:Nat,s = ((lo:Int),(hi:Int))∧lo≤hi∧hi≤r.tuples.length∧(SortedL r.tuples→(∀ i x,i < lo→r.tuples[i]? = some x→x < k)∧∀ i x,hi≤i→r.tuples[i]? = some x→k≤x)) (fun s=>(s.2 - s.1).toNat) ?_ (fun s hs=>?_)
  ·exact ⟨0,r.tuples.length,rfl,by omega,by omega,fun _=>⟨fun i x hi=>by omega,fun i x hi hx=>by have:=(List.getElem?_eq_some_iff.1 hx).1; omega⟩⟩
  obtain ⟨lo,hi,rfl,h1,h2,h3⟩:=hs
  refine Ev.dec (fun hlt=>?_) (fun hge=>Ev.pure ⟨lo,rfl,by omega,fun hs=>⟨(h3 hs).1,fun i x hi=>(h3 hs).2 i x (by simp at hge; omega)⟩⟩)
  have hlt:(lo:Int) < hi:=hlt
  have em:w64 (Int.tdiv (w64 ((lo:Int) + hi)) 2) = (((lo + hi) / 2:Nat):Int):=by
   rw [w64_id (x:=(lo:Int) + hi) (by omega) (by omega),Int.tdiv_eq_ediv_of_nonneg (by omega),w64_id (by omega) (by omega)]
   omega
  show Ev _ (fun F=>(idx r.tuples (w64 (Int.tdiv (w64 ((lo:Int) + hi)) 2))).bind fun y4=>bif decide (y4 < k) then some (Out.next (w64 (w64 (Int.tdiv (w64 ((lo:Int) + hi)) 2) + 1),(hi:Int))) else some (Out.next ((lo:Int),w64 (Int.tdiv (w64 ((lo:Int) + hi)) 2))))
  rw [em]
  refine Ev.bind (Ev.idxN (show (lo + hi) / 2 < r.tuples.length by omega)) (fun y hy=>?_)
  refine Ev.dec (fun hyk=>Ev.pure ⟨⟨(lo + hi) / 2 + 1,hi,by rw [w64_succ (by omega)],by omega,h2,fun hs=>⟨fun i x hi' hx=>?_,(h3 hs).2⟩⟩,?_⟩) (fun hyk=>Ev.pure ⟨⟨lo,(lo + hi) / 2,rfl,by omega,by omega,fun hs=>⟨(h3 hs).1,fun i x hi' hx=>?_⟩⟩,?_⟩)
  ·by_cases e:i = (lo + hi) / 2
   ·subst e; rw [hy] at hx; cases hx; exact hyk
   ·have:=hs i _ x y (show i < (lo + hi) / 2 by omega) hx hy
    omega
  ·show (_:Int).toNat < (_:Int).toNat
   rw [w64_succ (by omega)]
   omega
  ·by_cases e:i = (lo + hi) / 2
   ·subst e; rw [hy] at hx; cases hx; omega
   ·have:=hs _ i y x (show (lo + hi) / 2 < i by omega) hy hx
    omega
  ·show (_:Int).toNat < (_:Int).toNat
   omega
 ·obtain ⟨j,rfl,hj,hspec⟩:=hx
  refine Ev.bind (P:=fun b=>(b = true→k ∈ r.tuples)∧(SortedL r.tuples→k ∈ r.tuples→b = true)) ?_ (fun b hb=>Ev.pure hb)
  refine Ev.dec (fun hlt=>Ev.bind (Ev.idxN (by omega)) (fun y hy=>Ev.pure ⟨fun h=>?_,fun hs hk=>?_⟩)) (fun hge=>Ev.pure ⟨fun h=>(by cases h),fun hs hk=>?_⟩)
  ·have:y = k:=by simpa using h
   subst this
   exact List.mem_of_getElem? hy
  ·obtain ⟨i,hi⟩:=List.mem_iff_getElem?.1 hk
   obtain ⟨g1,g2⟩:=hspec hs
   have hik:¬ i < j:=fun hlt=>by have:=g1 i k hlt hi; omega
   have hky:=g2 j y (Nat.le_refl _) hy
   by_cases e:i = j
   ·subst e; rw [hi] at hy; cases hy; simp
   ·have:=hs j i y k (by omega) hy hi
    omega
  ·obtain ⟨i,hi⟩:=List.mem_iff_getElem?.1 hk
   obtain ⟨g1,g2⟩:=hspec hs
   have:=(List.getElem?_eq_some_iff.1 hi).1
   have:=g1 i k (by omega) hi
   omega
theorem e155 (a b:Rel) (ha:a.tuples.length≤LIM) (hb:b.tuples.length≤LIM):Ev (fun r=>r.tuples.length = 0→∀ t ∈ a.tuples,t ∈ b.tuples) (fun F=>m155 F a b):=by
 simp only [LIM] at ha
 unfold m155
 refine Ev.bindS (fun l=>l.length = 0→∀ t ∈ a.tuples,t ∈ b.tuples) (fun _=>False) ?_ (fun x hx=>Ev.pure hx) (fun _ h=>h.elim)
 refine Ev.loop (T:=List Int) a.tuples.length (fun i t=>((i:Int),t)) (fun i t=>t.length≤i∧(t.length = 0→∀ j,j < i→∀ x,a.tuples[j]? = some x→x ∈ b.tuples)) rfl ⟨Nat.le_refl _,fun _ j hj=>by omega⟩ (fun i t hi ht=>Ev.dt (Int.ofNat_lt.2 hi) ?_) (fun t ht=>Ev.df (Int.lt_irrefl _) (Ev.pure (fun h=>allOf (ht.2 h))))
 refine Ev.bind (Ev.idxN hi) (fun y hy=>Ev.bind (e70 b hb y) (fun h hh=>?_))
 refine Ev.ite (fun hf=>Ev.bind (Ev.idxN hi) (fun z hz=>Ev.bind (Ev.app (show t.length + 1 < _ by omega)) (fun u hu=>Ev.pure ⟨u,by rw [w64_succ (by omega)],?_⟩))) (fun ht2=>Ev.pure ⟨t,by rw [w64_succ (by omega)],by omega,fun h0=>stepA (ht.2 h0) hy (hh.1 (by simpa using ht2))⟩)
 rw [hu]
 simp
 omega
theorem e101 (a b:Rel) (ha:a.tuples.length≤LIM) (hb:b.tuples.length≤LIM):Ev (fun r=>r = true→∀ t ∈ a.tuples,t ∈ b.tuples) (fun F=>m101 F a b):=by
 unfold m101
 refine Ev.bind (e155 a b ha hb) (fun y hy=>Ev.pure (fun h=>hy ?_))
 simp at h
 rw [h]; rfl
end Go.AL
namespace Go.AL
open Go
set_option maxRecDepth 4000
theorem pow_rng {n:Int} (h0:0≤n) (h1:n≤20):∀ k:Nat,0≤n ^ k∧n ^ k≤20 ^ k
 | 0=>by simp
 | k + 1=>by
  have ih:=pow_rng h0 h1 k
  rw [Int.pow_succ,Int.pow_succ]
  exact ⟨Int.mul_nonneg ih.1 h0,Int.mul_le_mul ih.2 h1 h0 (by omega)⟩
theorem pow_rng3 {n:Int} (h0:0≤n) (h1:n≤20) {k:Nat} (hk:k≤3):0≤n ^ k∧n ^ k≤8000:=by
 have:=pow_rng h0 h1 k
 have h2:(20:Int) ^ k≤8000:=by
  match k,hk with
  | 0,_=>decide
  | 1,_=>decide
  | 2,_=>decide
  | 3,_=>decide
 omega
theorem e156 (sc:Scope) (h:ScA sc.atoms) (k:Nat) (hk:k≤3):Ev (fun r=>r = sc.atoms.sum ^ k) (fun F=>m156 F sc k):=by
 have hn:=sum_len h
 unfold m156
 refine Ev.bindS (fun r=>r = sc.atoms.sum ^ k) (fun _=>False) ?_ (fun x hx=>Ev.pure hx) (fun _ h=>h.elim)
 refine Ev.loop (T:=Int) k (fun i t=>(t,(i:Int))) (fun i t=>t = sc.atoms.sum ^ i) rfl (Int.pow_zero _).symm (fun i t hi ht=>?_) (fun t ht=>?_)
 ·refine Ev.bind (P:=fun p=>p = true) (Ev.dt (show (i:Int) < k by omega) (Ev.pure (decide_eq_true (show (i:Int) < 3 by omega)))) (fun p hp=>Ev.it hp ?_)
  refine Ev.bind (e100 sc h) (fun y hy=>Ev.pure ⟨_,by rw [w64_succ (by omega)],?_⟩)
  have a:=pow_rng3 hn.1 hn.2 (k:=i.succ) (by omega)
  show w64 (t * y) = _
  rw [ht,hy,← Int.pow_succ,w64_id (by omega) (by omega)]
 ·refine Ev.bind (P:=fun p=>p = false) (Ev.df (Int.lt_irrefl _) (Ev.pure rfl)) (fun p hp=>Ev.if hp (Ev.pure ht))
theorem e126 (n:Int) (h0:0≤n) (h1:n≤20) (k:Nat) (hk:k≤3):Ev (fun r=>r = n ^ k) (fun F=>m126 F n k):=by
 unfold m126
 refine Ev.bindS (fun r=>r = n ^ k) (fun _=>False) ?_ (fun x hx=>Ev.pure hx) (fun _ h=>h.elim)
 refine Ev.loop (T:=Int) k (fun i t=>(t,(i:Int))) (fun i t=>t = n ^ i) rfl (Int.pow_zero _).symm (fun i t hi ht=>?_) (fun t ht=>?_)
 ·refine Ev.bind (P:=fun p=>p = true) (Ev.dt (show (i:Int) < k by omega) (Ev.pure (decide_eq_true (show (i:Int) < 3 by omega)))) (fun p hp=>Ev.it hp ?_)
  refine Ev.pure ⟨_,by rw [w64_succ (by omega)],?_⟩
  have a:=pow_rng3 h0 h1 (k:=i.succ) (by omega)
  show w64 (t * n) = _
  rw [ht,← Int.pow_succ,w64_id (by omega) (by omega)]
 ·refine Ev.bind (P:=fun p=>p = false) (Ev.df (Int.lt_irrefl _) (Ev.pure rfl)) (fun p hp=>Ev.if hp (Ev.pure ht))
theorem Ev.updO {α:Type} {xs:List α} {r:Nat} {v:α} (h:r < xs.length):Ev (fun z=>z = xs.set r v) (fun _=>Go.AL.updO xs r v):=⟨_,rfl,0,fun _ _=>by
 have:Nat.blt r xs.length = true:=by simpa using h
 simp [Go.AL.updO,this]⟩
theorem e157 (sc:Scope) (h:ScA sc.atoms) (hn1:1≤sc.atoms.sum) (k:Nat) (hk:k≤3) (rank:Int) (hr0:0≤rank) (hr1:rank < sc.atoms.sum ^ k):Ev (fun r=>r.length = k) (fun F=>m157 F sc k rank):=by
 unfold m157
 refine Ev.bind (P:=fun p=>p = false) ?_ (fun p hp=>Ev.if hp ?_)
 ·refine Ev.df (by omega) (Ev.df (by omega) (Ev.df (by omega) (Ev.bind (e156 sc h k hk) (fun y hy=>Ev.pure (decide_eq_false (by rw [hy]; omega))))))
 refine Ev.bind (e100 sc h) (fun y hy=>?_)
 have hy0:y ≠ 0:=by omega
 refine Ev.bindS (fun l=>l.length = 3) (fun _=>False) ?_ (fun x hx=>?_) (fun _ h=>h.elim)
 ·refine Ev.runs (fun s=>-1≤s.2.1∧s.2.1≤2∧s.2.2.length = 3) (fun s=>(s.2.1 + 1).toNat) ⟨?_,?_,rfl⟩ (fun s hs=>?_)
  ·show -1≤w64 _; rw [w64_id (by omega) (by omega)]; omega
  ·show w64 _≤2; rw [w64_id (by omega) (by omega)]; omega
  obtain ⟨h1,h2,h3⟩:=hs
  refine Ev.dec (fun h0=>?_) (fun _=>Ev.pure h3)
  refine Ev.bind (Ev.remO hy0) (fun y8 _=>Ev.bind (Ev.inr h0 (by omega)) (fun y9 hy9=>Ev.bind (Ev.updO (by rw [h3,hy9]; omega)) (fun y10 hy10=>Ev.bind (Ev.quoO hy0) (fun y11 _=>Ev.pure ⟨⟨?_,?_,?_⟩,?_⟩))))
  ·show -1≤w64 _; rw [w64_id (by omega) (by omega)]; omega
  ·show w64 _≤2; rw [w64_id (by omega) (by omega)]; omega
  ·show y10.length = 3; rw [hy10]; simp [h3]
  ·show (w64 _ + 1).toNat < _; rw [w64_id (by omega) (by omega)]; omega
 ·refine Ev.bind (P:=fun l=>l.length = k) ⟨x.take k,by simp; omega,0,fun _ _=>?_⟩ (fun z hz=>Ev.pure hz)
  have:x.length = 3∧0≤(k:Int)∧(k:Int)≤(3:Nat):=⟨hx,by omega,by omega⟩
  unfold slcF
  rw [decide_eq_true this]
  rfl
theorem e225 (sc:Scope) (h:ScA sc.atoms) (atom:Int):Tot (fun F=>m225 F sc atom):=by
 have h1:=h.1
 unfold m225
 refine Ev.bindS TT TT (Ev.each (n:=sc.atoms.length) (by omega) TT trivial (fun i hi _=>?_) (fun _=>trivial)) (fun _ _=>Ev.pure trivial) (fun _ _=>Ev.pure trivial)
 rw [w64_succ (by omega)]
 refine Ev.bind (P:=TT) (Ev.bind (e154 sc h i) (fun y _=>Ev.dec (fun _=>Ev.bind (e154 sc h (i + 1)) (fun _ _=>Ev.pure trivial)) (fun _=>Ev.pure trivial))) (fun p _=>?_)
 exact Ev.ite (fun _=>Ev.pure trivial) (fun _=>Ev.pure ⟨rfl,trivial⟩)
theorem e158 (sc:Scope) (h:ScA sc.atoms) (t l:List Int) (hl:t.length = l.length) (h3:l.length≤3):Tot (fun F=>m158 F sc t l):=by
 unfold m158
 refine Ev.bindS TT TT (Ev.each (n:=l.length) (by omega) TT trivial (fun i hi _=>?_) (fun _=>trivial)) (fun _ _=>Ev.pure trivial) (fun _ _=>Ev.pure trivial)
 exact Ev.bind (Ev.idxN (by omega)) (fun y _=>Ev.bind (e225 sc h y) (fun _ _=>Ev.bind (Ev.idxN hi) (fun _ _=>Ev.ite (fun _=>Ev.pure trivial) (fun _=>Ev.pure ⟨rfl,trivial⟩))))
theorem e102 (sc:Scope) (h:ScA sc.atoms) (l:List Int) (hl:l.length≤LIM):Ev (fun r=>r.tuples.length≤8000) (fun F=>m102 F sc l):=by
 simp only [LIM] at hl
 unfold m102
 refine Ev.bind (P:=fun p=>p = false→1≤l.length∧l.length≤3) ?_ (fun p hp=>?_)
 ·refine Ev.dec (fun _=>Ev.pure (fun h=>by cases h)) (fun h1=>Ev.pure (fun h2=>?_))
  have:=of_decide_eq_false h2
  omega
 refine Ev.ite (fun _=>Ev.pure (by simp)) (fun hpf=>?_)
 obtain ⟨h1,h3⟩:=hp hpf
 refine Ev.bindS (fun _=>∀ s ∈ l,0≤s∧s < sc.atoms.length) (fun r=>r.tuples.length≤8000) ?_ (fun _ hd=>?_) (fun r hr=>Ev.pure hr)
 ·refine Ev.each (n:=l.length) (by omega) (fun i=>∀ j,j < i→∀ s,l[j]? = some s→0≤s∧s < sc.atoms.length) (fun j hj=>by omega) (fun i hi hA=>?_) allOf
  refine Ev.bind (Ev.idxN hi) (fun s hs=>?_)
  refine Ev.bind (P:=fun p=>p = false→0≤s∧s < sc.atoms.length) ?_ (fun p hp=>?_)
  ·refine Ev.dec (fun _=>Ev.pure (fun h=>by cases h)) (fun h1=>Ev.bind (Ev.idxN hi) (fun s' hs'=>Ev.pure (fun h2=>?_)))
   rw [hs] at hs'; cases hs'
   have:=of_decide_eq_false h2
   omega
  exact Ev.ite (fun _=>Ev.pure (by show ([]:List Int).length≤_; simp)) (fun hpf=>Ev.pure ⟨rfl,stepA hA hs (hp hpf)⟩)
 have hn1:1≤sc.atoms.sum:=by
  obtain ⟨s,hs⟩:∃ s,l[0]? = some s:=⟨l[0],by simp [show 0 < l.length by omega]⟩
  have:=hd s (List.mem_of_getElem? hs)
  have:=sum_ge h
  omega
 have hn:=sum_len h
 have hp:=pow_rng3 hn.1 hn.2 h3
 refine Ev.bindS (fun l=>l.length≤8000) (fun _=>False) ?_ (fun x hx=>Ev.pure hx) (fun _ h=>h.elim)
 refine Ev.loop (T:=List Int) (sc.atoms.sum ^ l.length).toNat (fun i t=>((i:Int),t)) (fun i t=>t.length≤i) rfl (Nat.le_refl _) (fun i t hi ht=>?_) (fun t ht=>?_)
 ·refine Ev.bind (e156 sc h l.length h3) (fun y hy=>Ev.dt (show (i:Int) < y by omega) ?_)
  refine Ev.bind (e157 sc h hn1 l.length h3 i (by omega) (by omega)) (fun tu htu=>Ev.bind (e158 sc h tu l htu h3) (fun b _=>?_))
  exact Ev.ite (fun _=>Ev.bind (Ev.app (show t.length + 1 < _ by omega)) (fun u hu=>Ev.pure ⟨u,by rw [w64_succ (by omega)],by rw [hu]; simp; omega⟩)) (fun _=>Ev.pure ⟨t,by rw [w64_succ (by omega)],by omega⟩)
 ·exact Ev.bind (e156 sc h l.length h3) (fun y hy=>Ev.df (show ¬ (((sc.atoms.sum ^ l.length).toNat:Nat):Int) < y by omega) (Ev.pure (show t.length≤8000 by omega)))
structure RelOk (n:Int) (r:Rel):Prop where
 n0:0≤n
 n1:n≤12
 a0:1≤r.arity
 a1:r.arity≤3
 rng:∀ t ∈ r.tuples,0≤t∧t < n ^ r.arity.toNat
 sorted:SortedL r.tuples
theorem sorted_adj {l:List Int} (h:∀ (j:Nat) x y,l[j]? = some x→l[j + 1]? = some y→x < y):SortedL l:=by
 have key:∀ (d i:Nat) x y,l[i]? = some x→l[i + d + 1]? = some y→x < y:=by
  intro d
  induction d with
  | zero=>intro i x y hx hy; exact h i x y hx hy
  | succ d ih=>
   intro i x y hx hy
   obtain ⟨z,hz⟩:∃ z,l[i + d + 1]? = some z:=by
    have:=(List.getElem?_eq_some_iff.1 hy).1
    exact ⟨l[i + d + 1],by simp [show i + d + 1 < l.length by omega]⟩
   have a:=ih i x z hx hz
   have b:=h (i + d + 1) z y hz (by rw [show i + d + 1 + 1 = i + (d + 1) + 1 by omega]; exact hy)
   omega
 intro i j x y hij hx hy
 exact key (j - i - 1) i x y hx (by rw [show i + (j - i - 1) + 1 = j by omega]; exact hy)
theorem e80 (n:Int) (r:Rel) (hl:r.tuples.length≤LIM):Ev (fun b=>b = true→RelOk n r) (fun F=>m80 F n r):=by
 simp only [LIM] at hl
 unfold m80
 refine Ev.bind (P:=fun p=>p = false→0≤n∧n≤12∧1≤r.arity∧r.arity≤3) ?_ (fun p hp=>?_)
 ·refine Ev.dec (fun _=>Ev.pure (fun h=>by cases h)) (fun h1=>Ev.dec (fun _=>Ev.pure (fun h=>by cases h)) (fun h2=>Ev.dec (fun _=>Ev.pure (fun h=>by cases h)) (fun h3=>Ev.pure (fun h4=>?_))))
  have:=of_decide_eq_false h4
  omega
 refine Ev.ite (fun _=>Ev.pure (fun h=>by cases h)) (fun hpf=>?_)
 obtain ⟨c1,c2,c3,c4⟩:=hp hpf
 refine Ev.bindS (fun _=>∀ j,j < r.tuples.length→∀ t,r.tuples[j]? = some t→(0≤t∧t < n ^ r.arity.toNat)∧∀ u,0 < j→r.tuples[j - 1]? = some u→u < t) (fun b=>b = false) ?_ (fun _ hd=>Ev.pure (fun _=>⟨c1,c2,c3,c4,allOf fun j hj t ht=>(hd j hj t ht).1,sorted_adj fun j x y hx hy=>?_⟩)) (fun r hr=>Ev.pure (fun h=>by rw [hr] at h; cases h))
 ·refine Ev.each (n:=r.tuples.length) (by omega) (fun i=>∀ j,j < i→∀ t,r.tuples[j]? = some t→(0≤t∧t < n ^ r.arity.toNat)∧∀ u,0 < j→r.tuples[j - 1]? = some u→u < t) (fun j hj=>by omega) (fun i hi hA=>?_) (fun h=>h)
  refine Ev.bind (P:=fun p=>p = false→∀ t,r.tuples[i]? = some t→(0≤t∧t < n ^ r.arity.toNat)∧∀ u,0 < i→r.tuples[i - 1]? = some u→u < t) ?_ (fun p hp=>?_)
  ·refine Ev.bind (Ev.idxN hi) (fun t ht=>Ev.dec (fun _=>Ev.pure (fun h=>by cases h)) (fun h1=>?_))
   refine Ev.bind (Ev.idxN hi) (fun t' ht'=>?_)
   rw [ht] at ht'; cases ht'
   have ea:r.arity = (r.arity.toNat:Int):=by omega
   rw [ea]
   refine Ev.bind (e126 n c1 (by omega) r.arity.toNat (by omega)) (fun y hy=>Ev.dec (fun _=>Ev.pure (fun h=>by cases h)) (fun h2=>?_))
   rw [← ea]
   refine Ev.dec (fun h3=>?_) (fun h3=>Ev.pure (fun _ t' ht'=>?_))
   ·refine Ev.bind (Ev.idxN hi) (fun t2 ht2=>?_)
    rw [ht] at ht2; cases ht2
    rw [w64_id (by omega) (by omega),show (i:Int) - 1 = ((i - 1:Nat):Int) by omega]
    refine Ev.bind (Ev.idxN (by omega)) (fun v hv=>Ev.pure (fun h4 t' ht'=>?_))
    rw [ht] at ht'; cases ht'
    have:=of_decide_eq_false h4
    refine ⟨⟨by omega,by omega⟩,fun u _ hu=>?_⟩
    rw [hv] at hu; cases hu
    omega
   ·rw [ht] at ht'; cases ht'
    exact ⟨⟨by omega,by omega⟩,fun u h0=>absurd (show (0:Int) < i by omega) h3⟩
  ·refine Ev.ite (fun _=>Ev.pure rfl) (fun hpf=>Ev.pure ⟨rfl,fun j hj t ht=>?_⟩)
   by_cases e:j = i
   ·subst e; exact hp hpf t ht
   ·exact hA j (by omega) t ht
 ·exact (hd (j + 1) (List.getElem?_eq_some_iff.1 hy).1 y hy).2 x (by omega) hx
theorem e50 (sp:Spec) (sc:Scope) (h:ScA sc.atoms) (b:List Bound) (hb:b.length≤LIM) (hf:∀ f ∈ sp.fields,f.sorts.length≤LIM) (ht:∀ x ∈ b,x.lower.tuples.length≤LIM∧x.upper.tuples.length≤LIM) :
  Ev (fun r=>r = true→b.length = sp.fields.length∧∀ x ∈ b,SortedL x.lower.tuples) (fun F=>m50 F sp sc b):=by
 simp only [LIM] at hb
 unfold m50
 refine Ev.ite (fun _=>Ev.pure (fun h=>by cases h)) (fun hle=>?_)
 have hle:b.length = sp.fields.length:=by simp at hle; omega
 refine Ev.bind (e100 sc h) (fun n hn=>?_)
 refine Ev.bindS (fun _=>∀ x ∈ b,SortedL x.lower.tuples) (fun r=>r = false) ?_ (fun _ hd=>Ev.pure (fun _=>⟨hle,hd⟩)) (fun r hr=>Ev.pure (fun h=>by rw [hr] at h; cases h))
 refine Ev.each (n:=b.length) (by omega) (fun i=>∀ j,j < i→∀ x,b[j]? = some x→SortedL x.lower.tuples) (fun j hj=>by omega) (fun i hi hA=>?_) allOf
 obtain ⟨x,hx⟩:∃ x,b[i]? = some x:=⟨b[i],by simp [hi]⟩
 have hxm:=List.mem_of_getElem? hx
 have hix:Ev (fun y=>y = x) (fun _=>idx b (i:Int)):=(Ev.idxN hi).mono fun y hy=>by rw [hx] at hy; cases hy; rfl
 refine Ev.bind (Ev.idxN (by omega)) (fun f hfi=>Ev.bind hix (fun y6 e6=>?_))
 subst e6
 refine Ev.bind (P:=fun p=>p = false→SortedL y6.lower.tuples) ?_ (fun p hp=>?_)
 ·refine Ev.ite (fun _=>Ev.pure (fun h=>by cases h)) (fun _=>Ev.bind hix (fun y7 e7=>Ev.ite (fun _=>Ev.pure (fun h=>by cases h)) (fun _=>Ev.bind hix (fun y8 e8=>?_))))
  subst e8
  refine Ev.bind (e80 n y8.lower (ht y8 hxm).1) (fun y9 h9=>Ev.ite (fun _=>Ev.pure (fun h=>by cases h)) (fun h9t=>Ev.bind hix (fun y10 e10=>?_)))
  subst e10
  exact Ev.bind (e80 n y10.upper (ht y10 hxm).2) (fun _ _=>Ev.pure (fun _=>(h9 (by simpa using h9t)).sorted))
 refine Ev.ite (fun _=>Ev.pure rfl) (fun hpf=>?_)
 refine Ev.bind hix (fun y14 e14=>Ev.bind hix (fun y15 e15=>?_))
 subst e14 e15
 refine Ev.bind (e101 _ _ (ht _ hxm).1 (ht _ hxm).2) (fun y16 _=>?_)
 refine Ev.bind (P:=TT) ?_ (fun _ _=>Ev.ite (fun _=>Ev.pure rfl) (fun _=>Ev.pure ⟨rfl,stepA hA hx (hp hpf)⟩))
 refine Ev.ite (fun _=>Ev.pure trivial) (fun _=>Ev.bind hix (fun y17 e17=>Ev.bind (Ev.idxN (by omega)) (fun y18 h18=>?_)))
 subst e17
 exact Ev.bind (e102 sc h _ (hf y18 (List.mem_of_getElem? h18))) (fun y19 h19=>Ev.bind (e101 _ _ (ht _ hxm).2 (by simp only [LIM]; omega)) (fun _ _=>Ev.pure trivial))
end Go.AL
namespace Go.AL
open Go
set_option maxRecDepth 4000
def BdSm (b:List Bound):Prop:=b.length≤LIM∧∀ x ∈ b,x.lower.tuples.length≤LIM∧x.upper.tuples.length≤LIM
structure FitsOk (sp:Spec) (sc:Scope) (b:List Bound):Prop where
 spok:SpOk sp
 len:b.length = sp.fields.length
 atoms:sc.atoms.length = sp.sorts.length
 sca:ScA sc.atoms
 steps:1≤sc.steps∧sc.steps≤4
 sum:sc.atoms.sum≤4
 small:∀ x ∈ b,x.lower.tuples.length≤64∧x.upper.tuples.length≤64
 sorted:∀ x ∈ b,SortedL x.lower.tuples
theorem e11 (sp:Spec) (hs:SpSm sp) (sc:Scope) (hsc:sc.atoms.length≤LIM) (b:List Bound) (hb:BdSm b):Ev (fun r=>r = true→FitsOk sp sc b) (fun F=>m11 F sp sc b):=by
 have hbl:=hb.1
 simp only [LIM] at hbl
 unfold m11
 refine Ev.bind (e46 sp hs) (fun y1 hy1=>?_)
 refine Ev.bind (P:=fun p=>p = false→y1 = true∧b.length = sp.fields.length∧sc.atoms.length = sp.sorts.length∧ScA sc.atoms∧1≤sc.steps∧sc.steps≤4∧sc.atoms.sum≤12) ?_ (fun p hp=>?_)
 ·refine Ev.ite (fun _=>Ev.pure (fun h=>by cases h)) (fun h1=>Ev.ite (fun _=>Ev.pure (fun h=>by cases h)) (fun h2=>Ev.bind (e47 sp sc hs.sorts hsc) (fun y2 hy2=>Ev.pure (fun h3=>⟨by simpa using h1,by simp at h2; omega,hy2 (by simpa using h3)⟩))))
 refine Ev.ite (fun _=>Ev.pure (fun h=>by cases h)) (fun hpf=>?_)
 obtain ⟨c1,c2,c3,c4,c5,c6,c7⟩:=hp hpf
 have hsp:=hy1 c1
 refine Ev.bindS (fun _=>∀ x ∈ b,x.lower.tuples.length≤64∧x.upper.tuples.length≤64) (fun r=>r = false) ?_ (fun _ hd=>?_) (fun r hr=>Ev.pure (fun h=>by rw [hr] at h; cases h))
 ·refine Ev.each (n:=b.length) (by omega) (fun i=>∀ j,j < i→∀ x,b[j]? = some x→x.lower.tuples.length≤64∧x.upper.tuples.length≤64) (fun j hj=>by omega) (fun i hi hA=>?_) allOf
  refine Ev.bind (Ev.idxN hi) (fun x hx=>?_)
  refine Ev.bind (P:=fun p=>p = false→x.lower.tuples.length≤64∧x.upper.tuples.length≤64) ?_ (fun p hp=>Ev.ite (fun _=>Ev.pure rfl) (fun hpf=>Ev.pure ⟨rfl,stepA hA hx (hp hpf)⟩))
  refine Ev.dec (fun _=>Ev.pure (fun h=>by cases h)) (fun h1=>Ev.bind (Ev.idxN hi) (fun x' hx'=>Ev.pure (fun h2=>?_)))
  rw [hx] at hx'; cases hx'
  have:=of_decide_eq_false h2
  omega
 refine Ev.bind (e48 sc c4) (fun y15 hy15=>?_)
 refine Ev.bind (P:=fun p=>p = false→sc.atoms.sum≤4) ?_ (fun p2 hp2=>?_)
 ·exact Ev.dec (fun _=>Ev.pure (fun h=>by cases h)) (fun h4=>Ev.bind (e49 sp hs hsp) (fun _ _=>Ev.pure (fun _=>by rw [← hy15]; omega)))
 refine Ev.ite (fun _=>Ev.pure (fun h=>by cases h)) (fun hpf2=>?_)
 refine Ev.bind (e50 sp sc c4 b hb.1 hs.fsorts hb.2) (fun y hy=>Ev.pure (fun ht=>⟨hsp,c2,c3,c4,⟨c5,c6⟩,hp2 hpf2,hd,(hy ht).2⟩))
structure MoSm (m:Model):Prop where
 states:m.states.length≤LIM
 state:∀ s ∈ m.states,s.length≤LIM
 rels:∀ s ∈ m.states,∀ r ∈ s,r.tuples.length≤LIM
 atoms:m.scope.atoms.length≤LIM
theorem e12 (sp:Spec) (hs:SpSm sp) (m:Model) (hm:MoSm m):Tot (fun F=>m12 F sp m):=by
 have q1:=hm.states
 have q2:=hs.fields
 simp only [LIM] at q1 q2
 unfold m12
 refine Ev.bind (P:=TT) (Ev.ite (fun _=>Ev.pure trivial) (fun _=>Ev.ite (fun _=>Ev.pure trivial) (fun _=>Ev.ite (fun _=>Ev.pure trivial) (fun _=>Ev.pure trivial)))) (fun p _=>Ev.ite (fun _=>Ev.pure trivial) (fun _=>?_))
 refine Ev.bindS TT TT (Ev.each (n:=m.states.length) (by omega) TT trivial (fun i hi _=>?_) (fun _=>trivial)) (fun _ _=>?_) (fun _ _=>Ev.pure trivial)
 ·obtain ⟨x,hx⟩:∃ x,m.states[i]? = some x:=⟨m.states[i],by simp [hi]⟩
  have hix:Ev (fun y=>y = x) (fun _=>idx m.states (i:Int)):=(Ev.idxN hi).mono fun y hy=>by rw [hx] at hy; cases hy; rfl
  have hxl:=hm.state x (List.mem_of_getElem? hx)
  simp only [LIM] at hxl
  refine Ev.bind (Ev.idxN hi) (fun _ _=>Ev.ite (fun _=>Ev.pure trivial) (fun _=>?_))
  refine Ev.bindS TT TT ?_ (fun _ _=>Ev.pure ⟨rfl,trivial⟩) (fun _ _=>Ev.pure trivial)
  refine Ev.loop (T:=Unit) x.length (fun i _=>(i:Int)) (fun _ _=>True) (t0:=()) rfl trivial (fun j t hj _=>?_) (fun t _=>?_)
  ·refine Ev.bind hix (fun y10 e10=>?_)
   subst e10
   refine Ev.dt (Int.ofNat_lt.2 hj) (Ev.bind hix (fun y11 e11=>?_))
   subst e11
   exact Ev.bind (Ev.idxN hj) (fun _ _=>Ev.ite (fun _=>Ev.pure trivial) (fun _=>Ev.pure ⟨(),by rw [w64_succ (by omega)],trivial⟩))
  ·refine Ev.bind hix (fun y10 e10=>?_)
   subst e10
   exact Ev.df (Int.lt_irrefl _) (Ev.pure trivial)
 ·refine Ev.bindS TT TT (Ev.each (n:=sp.fields.length) (by omega) TT trivial (fun i hi _=>?_) (fun _=>trivial)) (fun _ _=>Ev.pure trivial) (fun _ _=>Ev.pure trivial)
  exact Ev.bind (Ev.idxN hi) (fun _ _=>Ev.ite (fun _=>Ev.pure trivial) (fun _=>Ev.pure ⟨rfl,trivial⟩))
end Go.AL
namespace Go.AL
open Go Go.Proofs
set_option maxRecDepth 10000
def m31 (F:Nat) (b:List Bound) (x:Model) (y_2:Model):Option Int:=
 bif (x.loop != y_2.loop) then
 bif decide (x.loop < y_2.loop) then
 some ((-1))
 else
 some 1
 else
 (m53 F b).bind fun y1=>
 (runs (fun (s2:Int)=>
 ((bif decide (s2 < (x.states.length:Int)) then
 some (decide (s2 < (y_2.states.length:Int)))
 else
 some (false)).bind fun p5=>
 bif p5 then
 (runs (fun (s7:Int)=>
 (bif decide (s7 < (y1.length:Int)) then
 (idx x.states s2).bind fun y10=>
 (idx y1 s7).bind fun y11=>
 (idx y10 y11.fst).bind fun y12=>
 (idx y1 s7).bind fun y13=>
 (m70 F y12 y13.snd).bind fun y14=>
 (idx y_2.states s2).bind fun y15=>
 (idx y1 s7).bind fun y16=>
 (idx y15 y16.fst).bind fun y17=>
 (idx y1 s7).bind fun y18=>
 (m70 F y17 y18.snd).bind fun y19=>
 bif (!(y14 == y19)) then
 bif y19 then
 some (Out.ret ((-1)))
 else
 some (Out.ret 1)
 else
 some (Out.next (w64 (s7 + 1)))
 else
 some (Out.exit (())):Option (Out (Int) (Unit) Int))) F (0)).bind fun (o22:(Unit) ⊕ Int)=>(match o22 with
 | .inl x20=>
 some (Out.next (w64 (s2 + 1)))
 | .inr r23=>some (Out.ret r23))
 else
 some (Out.exit (())):Option (Out (Int) (Unit) Int))) F (0)).bind fun (o26:(Unit) ⊕ Int)=>(match o26 with
 | .inl x24=>
 some 0
 | .inr r27=>some r27)
theorem c31 (F:Nat) (b:List Bound) (x:Model) (y_2:Model) (res:Int) (hm:m31 F b x y_2 = some res) (h:List ABlk):ACall Tryz.prog 31 [AV.vw 4 (b.map Bound.av),x.av,y_2.av] h (.ret (AV.int .i64 res)) h:=by
 unfold m31 at hm
 refine ACall.mir 0 Tryz.func31 rfl (.cons (.vw (ApartL.map fun _ _=>(Bound.apart _))) (.cons (Model.apart _) (.cons (Model.apart _) .nil))) (nlst rfl) ?_ h
 show SX _ _ _ 84 _ _ _ _
 refine SX.seq (SX.rr rfl ?_)
 refine SX.seq (SX.seq ?_)
 refine SX.rr rfl ?_
 refine SX.condM rfl rfl hm (fun ht hm=>?_) (fun ht hm=>?_)
 ·refine SX.seq (SX.seq ?_)
  refine SX.rr rfl ?_
  refine SX.condM rfl rfl hm (fun ht hm=>?_) (fun ht hm=>?_)
  ·refine SX.seq (SX.rr rfl (SX.rt ?_))
   obtain rfl:=oj hm
   exact RetQ.mk (vs:=[AV.int .i64 ((-1))]) rfl (.apart .int)
  ·refine SX.sk (SX.seq (SX.rr rfl (SX.rt ?_)))
   obtain rfl:=oj hm
   exact RetQ.mk (vs:=[AV.int .i64 1]) rfl (.apart .int)
 ·refine SX.sk (SX.seq (SX.rn 1 rfl ?_))
  obtain ⟨y1,hy1,hm⟩:=bindE hm
  refine SOps.call rfl rfl rfl rfl rfl (c53 F b y1 hy1 _) rdNone (SOps.re rfl ?_)
  refine SX.seq (SX.seq ?_)
  refine SX.rr rfl ?_
  obtain ⟨o26,ho26,hm⟩:=bindE hm
  refine SX.forget (al':=[(4,AV.ptr 0 0 0 0),(5,AV.ptr 1 0 0 0),(7,AV.vw 2 (y1.map Pair.av)),(8,AV.int .i64 0)]) (leA_of rfl) ?_
  refine SX.iter (fun (s2:Int) (g3:Unit)=>[(4,AV.ptr 0 0 0 0),(5,AV.ptr 1 0 0 0),(7,AV.vw 2 (y1.map Pair.av)),(8,AV.int .i64 s2)]) (fun (s2:Int) (g3:Unit)=>[ABlk.row 0 4 [x.av],ABlk.row 0 4 [y_2.av]]) (fun (x24:Unit) (g25:Unit)=>[]) (fun (x24:Unit) (g25:Unit)=>[ABlk.row 0 4 [x.av],ABlk.row 0 4 [y_2.av]]) (fun r al df h=>Ret Tryz.prog Tryz.f31 (AV.int .i64 r) al df h) () ho26 rfl rfl ?_ ?_ ?_
  ·intro s2 g3 out4 hb
   refine SX.seq (SX.seq ?_)
   obtain ⟨p5,hj,hb⟩:=bindE hb
   refine SX.join ([(4,AV.ptr 0 0 0 0),(5,AV.ptr 1 0 0 0),(7,AV.vw 2 (y1.map Pair.av)),(8,AV.int .i64 s2),(35,AV.bool p5)]) ([ABlk.row 0 4 [x.av],ABlk.row 0 4 [y_2.av]]) (SX.region ?_) ?_
   ·refine SOps.rn 3 rfl (SOps.light rfl rfl (lightV_len (f:=(fun l=>AV.vw 2 (l.map Rel.av))) (xs:=x.states) rfl rfl Tryz.underlying35 rfl) rdNone (SOps.rn 1 rfl ?_))
    refine SOps.splitM rfl rfl rfl rdNone hj (fun hj=>?_) (fun hj=>?_)
    ·refine SOps.rn 3 rfl (SOps.light rfl rfl (lightV_len (f:=(fun l=>AV.vw 2 (l.map Rel.av))) (xs:=y_2.states) rfl rfl Tryz.underlying35 rfl) rdNone (SOps.re rfl ?_))
     obtain rfl:=oj hj
     exact ⟨rfl,CutTo.sr rfl⟩
    ·refine SOps.re rfl ?_
     obtain rfl:=oj hj
     exact ⟨rfl,CutTo.sr rfl⟩
   refine SX.condM rfl rfl hb (fun ht hb=>?_) (fun ht hb=>?_)
   ·refine SX.sk (SX.seq (SX.block (SX.seq (SX.rr rfl ?_))))
    obtain ⟨o22,ho22,hb⟩:=bindE hb
    refine SX.forget (al':=[(4,AV.ptr 0 0 0 0),(5,AV.ptr 1 0 0 0),(7,AV.vw 2 (y1.map Pair.av)),(8,AV.int .i64 s2),(9,AV.int .i64 0)]) (leA_of rfl) ?_
    refine SX.iter (fun (s7:Int) (g8:Unit)=>[(4,AV.ptr 0 0 0 0),(5,AV.ptr 1 0 0 0),(7,AV.vw 2 (y1.map Pair.av)),(8,AV.int .i64 s2),(9,AV.int .i64 s7)]) (fun (s7:Int) (g8:Unit)=>[ABlk.row 0 4 [x.av],ABlk.row 0 4 [y_2.av]]) (fun (x20:Unit) (g21:Unit)=>[(4,AV.ptr 0 0 0 0),(5,AV.ptr 1 0 0 0),(7,AV.vw 2 (y1.map Pair.av)),(8,AV.int .i64 s2)]) (fun (x20:Unit) (g21:Unit)=>[ABlk.row 0 4 [x.av],ABlk.row 0 4 [y_2.av]]) (fun r al df h=>Ret Tryz.prog Tryz.f31 (AV.int .i64 r) al df h) () ho22 rfl rfl ?_ ?_ ?_
    ·intro s7 g8 out9 hb
     refine SX.seq (SX.seq ?_)
     refine SX.rn 2 rfl (SOps.light rfl rfl (lightV_len (f:=Pair.av) (xs:=y1) rfl rfl Tryz.underlying110 rfl) rdNone (SOps.re rfl ?_))
     refine SX.condM rfl rfl hb (fun ht hb=>?_) (fun ht hb=>?_)
     ·refine SX.sk (SX.seq (SX.block (SX.seq (SX.draw follows_mixed rfl rdNone (PO.rn 3 rfl ?_)))))
      obtain ⟨y10,hy10,hb⟩:=bindE hb
      refine PO.light rfl rfl (lightV_idx (f:=(fun l=>AV.vw 2 (l.map Rel.av))) (xs:=x.states) rfl rfl Tryz.underlying35 rfl hy10) (PO.rn 3 rfl ?_)
      obtain ⟨y11,hy11,hb⟩:=bindE hb
      refine PO.light rfl rfl (lightV_idx (f:=Pair.av) (xs:=y1) rfl rfl Tryz.underlying110 rfl hy11) (PO.rn 2 rfl ?_)
      obtain ⟨y12,hy12,hb⟩:=bindE hb
      refine PO.light rfl rfl (lightV_idx (f:=Rel.av) (xs:=y10) rfl rfl Tryz.underlying78 rfl hy12) (PO.rn 3 rfl ?_)
      obtain ⟨y13,hy13,hb⟩:=bindE hb
      refine PO.light rfl rfl (lightV_idx (f:=Pair.av) (xs:=y1) rfl rfl Tryz.underlying110 rfl hy13) (PO.rn 2 rfl ?_)
      obtain ⟨y14,hy14,hb⟩:=bindE hb
      refine PO.call rfl rfl rfl rfl rfl (c70 F y12 y13.snd y14 hy14 _) (PO.re rfl (SX.seq (SX.draw follows_mixed rfl rdNone (PO.rn 3 rfl ?_))))
      obtain ⟨y15,hy15,hb⟩:=bindE hb
      refine PO.light rfl rfl (lightV_idx (f:=(fun l=>AV.vw 2 (l.map Rel.av))) (xs:=y_2.states) rfl rfl Tryz.underlying35 rfl hy15) (PO.rn 3 rfl ?_)
      obtain ⟨y16,hy16,hb⟩:=bindE hb
      refine PO.light rfl rfl (lightV_idx (f:=Pair.av) (xs:=y1) rfl rfl Tryz.underlying110 rfl hy16) (PO.rn 2 rfl ?_)
      obtain ⟨y17,hy17,hb⟩:=bindE hb
      refine PO.light rfl rfl (lightV_idx (f:=Rel.av) (xs:=y15) rfl rfl Tryz.underlying78 rfl hy17) (PO.rn 3 rfl ?_)
      obtain ⟨y18,hy18,hb⟩:=bindE hb
      refine PO.light rfl rfl (lightV_idx (f:=Pair.av) (xs:=y1) rfl rfl Tryz.underlying110 rfl hy18) (PO.rn 2 rfl ?_)
      obtain ⟨y19,hy19,hb⟩:=bindE hb
      refine PO.call rfl rfl rfl rfl rfl (c70 F y17 y18.snd y19 hy19 _) (PO.re rfl (SX.seq (SX.rr rfl ?_)))
      refine SX.condM rfl rfl hb (fun ht hb=>?_) (fun ht hb=>?_)
      ·refine SX.seq (SX.seq ?_)
       refine SX.rr rfl ?_
       refine SX.condM rfl rfl hb (fun ht hb=>?_) (fun ht hb=>?_)
       ·refine SX.seq (SX.rr rfl (SX.rt ?_))
        exact eI _ (aI (ojs hb) (Ret.mk (vs:=[AV.int .i64 ((-1))]) rfl (.apart .int)))
       ·refine SX.sk (SX.seq (SX.rr rfl (SX.rt ?_)))
        exact eI _ (aI (ojs hb) (Ret.mk (vs:=[AV.int .i64 1]) rfl (.apart .int)))
      ·refine SX.sk (SX.rr rfl ?_)
       exact eI _ (eI () (aI (ojs hb) (CutTo.sr rfl)))
     ·refine SX.ex ?_
      exact aI rfl (eI _ (eI () (aI (ojs hb) (CutTo.sr rfl))))
    ·intro x20 g21 he
     subst he
     refine SX.rr rfl ?_
     exact eI _ (eI () (aI (ojs hb) (CutTo.sr rfl)))
    ·intro r al' df' h' hr hq
     subst hr
     exact eI _ (aI (ojs hb) hq)
   ·refine SX.ex ?_
    exact aI rfl (eI _ (eI () (aI (ojs hb) (CutTo.sr rfl))))
  ·intro x24 g25 he
   subst he
   refine SX.seq (SX.rr rfl (SX.rt ?_))
   obtain rfl:=oj hm
   exact RetQ.mk (vs:=[AV.int .i64 0]) rfl (.apart .int)
  ·intro r al' df' h' hr hq
   subst hr
   obtain rfl:=oj hm
   exact hq
def m65 (F:Nat) (s1:List Int) (s2:List Int):Option Bool:=
 bif ((s1.length:Int) != (s2.length:Int)) then
 some false
 else
 (runs (fun (s3:Int)=>
 (bif decide (s3 < (s1.length:Int)) then
 (idx s1 s3).bind fun y6=>
 (idx s2 s3).bind fun y7=>
 bif (y6 != y7) then
 some (Out.ret false)
 else
 some (Out.next (w64 (s3 + 1)))
 else
 some (Out.exit (())):Option (Out (Int) (Unit) Bool))) F (0)).bind fun (o10:(Unit) ⊕ Bool)=>(match o10 with
 | .inl x8=>
 some true
 | .inr r11=>some r11)
theorem c65 (F:Nat) (s1:List Int) (s2:List Int) (res:Bool) (hm:m65 F s1 s2 = some res) (h:List ABlk):ACall Tryz.prog 65 [AV.vw 1 (s1.map (AV.int .i64)),AV.vw 1 (s2.map (AV.int .i64))] h (.ret (AV.bool res)) h:=by
 unfold m65 at hm
 refine ACall.mir 0 Tryz.func65 rfl (.cons (.vw (ApartL.map fun _ _=>.int)) (.cons (.vw (ApartL.map fun _ _=>.int)) .nil)) (nlst rfl) ?_ h
 show SX _ _ _ 26 _ _ _ _
 refine SX.seq (SX.rr rfl ?_)
 refine SX.seq (SX.seq ?_)
 refine SX.rn 1 rfl (SOps.light rfl rfl (lightV_len (f:=(AV.int .i64)) (xs:=s1) rfl rfl Tryz.underlying28 rfl) rdNone (SOps.rn 1 rfl (SOps.light rfl rfl (lightV_len (f:=(AV.int .i64)) (xs:=s2) rfl rfl Tryz.underlying28 rfl) rdNone (SOps.re rfl ?_))))
 refine SX.condM rfl rfl hm (fun ht hm=>?_) (fun ht hm=>?_)
 ·refine SX.seq (SX.rr rfl (SX.rt ?_))
  obtain rfl:=oj hm
  exact RetQ.mk (vs:=[AV.bool false]) rfl (.apart .bool)
 ·refine SX.sk ?_
  refine SX.seq (SX.seq ?_)
  refine SX.rn 1 rfl (SOps.light rfl rfl (lightV_len (f:=(AV.int .i64)) (xs:=s1) rfl rfl Tryz.underlying28 rfl) rdNone (SOps.re rfl ?_))
  obtain ⟨o10,ho10,hm⟩:=bindE hm
  refine SX.forget (al':=[(0,AV.vw 1 (s1.map (AV.int .i64))),(1,AV.vw 1 (s2.map (AV.int .i64))),(12,AV.int .i64 ((s1.length:Int))),(13,AV.int .i64 0)]) (leA_of rfl) ?_
  refine SX.iter (fun (s3:Int) (g4:Unit)=>[(0,AV.vw 1 (s1.map (AV.int .i64))),(1,AV.vw 1 (s2.map (AV.int .i64))),(12,AV.int .i64 ((s1.length:Int))),(13,AV.int .i64 s3)]) (fun (s3:Int) (g4:Unit)=>[]) (fun (x8:Unit) (g9:Unit)=>[]) (fun (x8:Unit) (g9:Unit)=>[]) (fun r al df h=>Ret Tryz.prog Tryz.f65 (AV.bool r) al df h) () ho10 rfl rfl ?_ ?_ ?_
  ·intro s3 g4 out5 hb
   refine SX.seq (SX.rr rfl (SX.seq ?_))
   refine SX.condM rfl rfl hb (fun ht hb=>?_) (fun ht hb=>?_)
   ·refine SX.sk (SX.seq (SX.block (SX.seq (SX.rr rfl (SX.seq (SX.draw follows_mixed rfl rdNone (PO.rn 2 rfl ?_)))))))
    obtain ⟨y6,hy6,hb⟩:=bindE hb
    refine PO.light rfl rfl (lightV_idx (f:=(AV.int .i64)) (xs:=s1) rfl rfl Tryz.underlying28 rfl hy6) (PO.rn 3 rfl ?_)
    obtain ⟨y7,hy7,hb⟩:=bindE hb
    refine PO.light rfl rfl (lightV_idx (f:=(AV.int .i64)) (xs:=s2) rfl rfl Tryz.underlying28 rfl hy7) (PO.re rfl ?_)
    refine SX.condM rfl rfl hb (fun ht hb=>?_) (fun ht hb=>?_)
    ·refine SX.seq (SX.rr rfl (SX.rt ?_))
     exact eI _ (aI (ojs hb) (Ret.mk (vs:=[AV.bool false]) rfl (.apart .bool)))
    ·refine SX.sk (SX.rr rfl ?_)
     exact eI _ (eI () (aI (ojs hb) (CutTo.sr rfl)))
   ·refine SX.ex ?_
    exact aI rfl (eI _ (eI () (aI (ojs hb) (CutTo.sr rfl))))
  ·intro x8 g9 he
   subst he
   refine SX.seq (SX.rr rfl (SX.rt ?_))
   obtain rfl:=oj hm
   exact RetQ.mk (vs:=[AV.bool true]) rfl (.apart .bool)
  ·intro r al' df' h' hr hq
   subst hr
   obtain rfl:=oj hm
   exact hq
def m173 (F:Nat) (l:List Int):Option Int:=
 (runs (fun (s1:Int×Int)=>
 (bif decide (s1.2 < (l.length:Int)) then
 (idx l s1.2).bind fun y4=>
 some (Out.next (w64 (s1.1 + y4),w64 (s1.2 + 1)))
 else
 some (Out.exit (s1.1)):Option (Out (Int×Int) (Int) Int))) F (0,0)).bind fun (o7:(Int) ⊕ Int)=>(match o7 with
 | .inl x5=>
 some x5
 | .inr r8=>some r8)
theorem c173 (F:Nat) (l:List Int) (res:Int) (hm:m173 F l = some res) (h:List ABlk):ACall Tryz.prog 173 [AV.vw 1 (l.map (AV.int .i64))] h (.ret (AV.int .i64 res)) h:=by
 unfold m173 at hm
 refine ACall.mir 0 Tryz.func173 rfl (.cons (.vw (ApartL.map fun _ _=>.int)) .nil) (nlst rfl) ?_ h
 show SX _ _ _ 17 _ _ _ _
 refine SX.seq (SX.rr rfl (SX.seq (SX.rr rfl ?_)))
 refine SX.seq (SX.seq ?_)
 refine SX.rn 1 rfl (SOps.light rfl rfl (lightV_len (f:=(AV.int .i64)) (xs:=l) rfl rfl Tryz.underlying28 rfl) rdNone (SOps.re rfl ?_))
 obtain ⟨o7,ho7,hm⟩:=bindE hm
 refine SX.forget (al':=[(3,AV.int .i64 0),(6,AV.vw 1 (l.map (AV.int .i64))),(7,AV.int .i64 ((l.length:Int))),(8,AV.int .i64 0)]) (leA_of rfl) ?_
 refine SX.iter (fun (s1:Int×Int) (g2:Unit)=>[(3,AV.int .i64 s1.1),(6,AV.vw 1 (l.map (AV.int .i64))),(7,AV.int .i64 ((l.length:Int))),(8,AV.int .i64 s1.2)]) (fun (s1:Int×Int) (g2:Unit)=>[]) (fun (x5:Int) (g6:Unit)=>[(3,AV.int .i64 x5)]) (fun (x5:Int) (g6:Unit)=>[]) (fun r al df h=>Ret Tryz.prog Tryz.f173 (AV.int .i64 r) al df h) () ho7 rfl rfl ?_ ?_ ?_
 ·intro s1 g2 out3 hb
  refine SX.seq (SX.rr rfl (SX.seq ?_))
  refine SX.condM rfl rfl hb (fun ht hb=>?_) (fun ht hb=>?_)
  ·refine SX.sk (SX.seq (SX.block (SX.seq (SX.region ?_))))
   obtain ⟨y4,hy4,hb⟩:=bindE hb
   refine SOps.light rfl rfl (lightV_idx (f:=(AV.int .i64)) (xs:=l) rfl rfl Tryz.underlying28 rfl hy4) rdNone (SOps.re rfl (SX.rr rfl (SX.rr rfl ?_)))
   exact eI _ (eI () (aI (ojs hb) (CutTo.sr rfl)))
  ·refine SX.ex ?_
   exact aI rfl (eI _ (eI () (aI (ojs hb) (CutTo.sr rfl))))
 ·intro x5 g6 he
  subst he
  refine SX.seq (SX.rr rfl (SX.rt ?_))
  obtain rfl:=oj hm
  exact RetQ.mk (vs:=[AV.int .i64 x5]) rfl (.apart .int)
 ·intro r al' df' h' hr hq
  subst hr
  obtain rfl:=oj hm
  exact hq
def m112 (F:Nat) (sc:Scope):Option Int:=
 (m173 F sc.atoms).bind fun y1=>
 some y1
theorem c112 (F:Nat) (sc:Scope) (res:Int) (hm:m112 F sc = some res) (h:List ABlk):ACall Tryz.prog 112 [sc.av] h (.ret (AV.int .i64 res)) h:=by
 unfold m112 at hm
 refine ACall.mir 0 Tryz.func112 rfl (.cons (Scope.apart _) .nil) (nlst rfl) ?_ h
 show SX _ _ _ 6 _ _ _ _
 refine SX.seq (SX.rr rfl (SX.seq (SX.rn 2 rfl ?_)))
 obtain ⟨y1,hy1,hm⟩:=bindE hm
 refine SOps.call rfl rfl rfl rfl rfl (c173 F sc.atoms y1 hy1 _) rdNone (SOps.re rfl (SX.rt ?_))
 obtain rfl:=oj hm
 exact RetQ.mk (vs:=[AV.int .i64 y1]) rfl (.apart .int)
def m172 (F:Nat) (n:Int) (least:Int) (most:Int):Option Bool:=
 (bif decide (least≤n) then
 some (decide (n≤most))
 else
 some (false)).bind fun p1=>
 some p1
theorem c172 (F:Nat) (n:Int) (least:Int) (most:Int) (res:Bool) (hm:m172 F n least most = some res) (h:List ABlk):ACall Tryz.prog 172 [AV.int .i64 n,AV.int .i64 least,AV.int .i64 most] h (.ret (AV.bool res)) h:=by
 unfold m172 at hm
 refine ACall.mir 0 Tryz.func172 rfl (.cons .int (.cons .int (.cons .int .nil))) (nlst rfl) ?_ h
 show SX _ _ _ 15 _ _ _ _
 refine SX.seq (SX.rr rfl (SX.seq ?_))
 obtain ⟨p1,hj,hm⟩:=bindE hm
 refine SX.join ([(6,AV.bool p1)]) ([]) (SX.region ?_) ?_
 ·refine SOps.rn 3 rfl ?_
  refine SOps.splitM rfl rfl rfl rdNone hj (fun hj=>?_) (fun hj=>?_)
  ·refine SOps.re rfl ?_
   obtain rfl:=oj hj
   exact ⟨rfl,CutTo.sr rfl⟩
  ·refine SOps.re rfl ?_
   obtain rfl:=oj hj
   exact ⟨rfl,CutTo.sr rfl⟩
 refine SX.rt ?_
 obtain rfl:=oj hm
 exact RetQ.mk (vs:=[AV.bool p1]) rfl (.apart .bool)
def m111 (F:Nat) (sp:Spec) (sc:Scope):Option Bool:=
 (bif decide (4 < (sp.sorts.length:Int)) then
 some (true)
 else
 bif ((sc.atoms.length:Int) != (sp.sorts.length:Int)) then
 some (true)
 else
 (m172 F sc.steps 1 4).bind fun y1=>
 some ((!y1))).bind fun p2=>
 bif p2 then
 some false
 else
 (runs (fun (s4:Int)=>
 (bif decide (s4 < (sc.atoms.length:Int)) then
 (idx sc.atoms s4).bind fun y7=>
 (m172 F y7 1 5).bind fun y8=>
 bif (!y8) then
 some (Out.ret false)
 else
 some (Out.next (w64 (s4 + 1)))
 else
 some (Out.exit (())):Option (Out (Int) (Unit) Bool))) F (0)).bind fun (o11:(Unit) ⊕ Bool)=>(match o11 with
 | .inl x9=>
 (m112 F sc).bind fun y12=>
 some (decide (y12≤12))
 | .inr r13=>some r13)
theorem c111 (F:Nat) (sp:Spec) (sc:Scope) (res:Bool) (hm:m111 F sp sc = some res) (h:List ABlk):ACall Tryz.prog 111 [sp.av,sc.av] h (.ret (AV.bool res)) h:=by
 unfold m111 at hm
 refine ACall.mir 0 Tryz.func111 rfl (.cons (Spec.apart _) (.cons (Scope.apart _) .nil)) (nlst rfl) ?_ h
 show SX _ _ _ 40 _ _ _ _
 refine SX.seq (SX.rr rfl ?_)
 refine SX.seq (SX.seq ?_)
 obtain ⟨p2,hj,hm⟩:=bindE hm
 refine SX.join ([(3,AV.ptr 1 0 0 0),(25,AV.bool p2)]) ([ABlk.row 0 4 [sp.av],ABlk.row 0 2 [sc.av]]) (SX.region ?_) ?_
 ·refine SOps.rn 2 rfl (SOps.light rfl rfl (lightV_len (f:=Sort'.av) (xs:=sp.sorts) rfl rfl Tryz.underlying22 rfl) rdNone (SOps.rn 1 rfl ?_))
  refine SOps.splitM rfl rfl rfl rdNone hj (fun hj=>?_) (fun hj=>?_)
  ·refine SOps.re rfl ?_
   obtain rfl:=oj hj
   exact ⟨rfl,CutTo.sr rfl⟩
  ·refine SOps.rn 2 rfl (SOps.light rfl rfl (lightV_len (f:=(AV.int .i64)) (xs:=sc.atoms) rfl rfl Tryz.underlying28 rfl) rdNone (SOps.rn 2 rfl (SOps.light rfl rfl (lightV_len (f:=Sort'.av) (xs:=sp.sorts) rfl rfl Tryz.underlying22 rfl) rdNone (SOps.rn 2 rfl ?_))))
   refine SOps.splitM rfl rfl rfl rdNone hj (fun hj=>?_) (fun hj=>?_)
   ·refine SOps.re rfl ?_
    obtain rfl:=oj hj
    exact ⟨rfl,CutTo.sr rfl⟩
   ·refine SOps.rn 2 rfl ?_
    obtain ⟨y1,hy1,hj⟩:=bindE hj
    refine SOps.call rfl rfl rfl rfl rfl (c172 F sc.steps 1 4 y1 hy1 _) rdNone (SOps.re rfl ?_)
    obtain rfl:=oj hj
    exact ⟨rfl,CutTo.sr rfl⟩
 refine SX.condM rfl rfl hm (fun ht hm=>?_) (fun ht hm=>?_)
 ·refine SX.seq (SX.rr rfl (SX.rt ?_))
  obtain rfl:=oj hm
  exact RetQ.mk (vs:=[AV.bool false]) rfl (.apart .bool)
 ·refine SX.sk ?_
  refine SX.seq (SX.seq ?_)
  refine SX.rn 2 rfl (SOps.light rfl rfl (lightV_len (f:=(AV.int .i64)) (xs:=sc.atoms) rfl rfl Tryz.underlying28 rfl) rdNone (SOps.re rfl ?_))
  obtain ⟨o11,ho11,hm⟩:=bindE hm
  refine SX.forget (al':=[(3,AV.ptr 1 0 0 0),(27,AV.vw 1 (sc.atoms.map (AV.int .i64))),(28,AV.int .i64 ((sc.atoms.length:Int))),(29,AV.int .i64 0)]) (leA_of rfl) ?_
  refine SX.iter (fun (s4:Int) (g5:Unit)=>[(3,AV.ptr 1 0 0 0),(27,AV.vw 1 (sc.atoms.map (AV.int .i64))),(28,AV.int .i64 ((sc.atoms.length:Int))),(29,AV.int .i64 s4)]) (fun (s4:Int) (g5:Unit)=>[ABlk.row 0 4 [sp.av],ABlk.row 0 2 [sc.av]]) (fun (x9:Unit) (g10:Unit)=>[(3,AV.ptr 1 0 0 0)]) (fun (x9:Unit) (g10:Unit)=>[ABlk.row 0 4 [sp.av],ABlk.row 0 2 [sc.av]]) (fun r al df h=>Ret Tryz.prog Tryz.f111 (AV.bool r) al df h) () ho11 rfl rfl ?_ ?_ ?_
  ·intro s4 g5 out6 hb
   refine SX.seq (SX.rr rfl (SX.seq ?_))
   refine SX.condM rfl rfl hb (fun ht hb=>?_) (fun ht hb=>?_)
   ·refine SX.sk (SX.seq (SX.block (SX.seq (SX.region ?_))))
    obtain ⟨y7,hy7,hb⟩:=bindE hb
    refine SOps.light rfl rfl (lightV_idx (f:=(AV.int .i64)) (xs:=sc.atoms) rfl rfl Tryz.underlying28 rfl hy7) rdNone (SOps.re rfl (SX.seq (SX.rn 1 rfl ?_)))
    obtain ⟨y8,hy8,hb⟩:=bindE hb
    refine SOps.call rfl rfl rfl rfl rfl (c172 F y7 1 5 y8 hy8 _) rdNone (SOps.re rfl ?_)
    refine SX.condM rfl rfl hb (fun ht hb=>?_) (fun ht hb=>?_)
    ·refine SX.seq (SX.rr rfl (SX.rt ?_))
     exact eI _ (aI (ojs hb) (Ret.mk (vs:=[AV.bool false]) rfl (.apart .bool)))
    ·refine SX.sk (SX.rr rfl ?_)
     exact eI _ (eI () (aI (ojs hb) (CutTo.sr rfl)))
   ·refine SX.ex ?_
    exact aI rfl (eI _ (eI () (aI (ojs hb) (CutTo.sr rfl))))
  ·intro x9 g10 he
   subst he
   refine SX.seq (SX.rn 1 rfl ?_)
   obtain ⟨y12,hy12,hm⟩:=bindE hm
   refine SOps.call rfl rfl rfl rfl rfl (c112 F sc y12 hy12 _) rdNone (SOps.re rfl (SX.rt ?_))
   obtain rfl:=oj hm
   exact RetQ.mk (vs:=[AV.bool (decide (y12≤12))]) rfl (.apart .bool)
  ·intro r al' df' h' hr hq
   subst hr
   obtain rfl:=oj hm
   exact hq
def m232 (F:Nat) (s_0:List Int) (f:Int→Option Bool):Option Int:=
 (runs (fun (s1:Int)=>
 (bif decide (s1 < (s_0.length:Int)) then
 (idx s_0 s1).bind fun y4=>
 (f y4).bind fun y5=>
 bif y5 then
 some (Out.ret s1)
 else
 some (Out.next (w64 (s1 + 1)))
 else
 some (Out.exit (())):Option (Out (Int) (Unit) Int))) F (0)).bind fun (o8:(Unit) ⊕ Int)=>(match o8 with
 | .inl x6=>
 some ((-1))
 | .inr r9=>some r9)
theorem c232 (F:Nat) (s_0:List Int) (fk_f:FuncId) (caps_f:List AV) (f:Int→Option Bool) (hcal_f:callable Tryz.prog fk_f = true) (hcaps_f:ApartL caps_f) (hf_f:∀ z0 r,f z0 = some r→∀ h,ACall Tryz.prog fk_f ([AV.int .i64 z0] ++ caps_f) h (.ret (AV.bool r)) h) (res:Int) (hm:m232 F s_0 f = some res) (h:List ABlk) (args0:List AV) (hargs:ReadL h args0 [AV.vw 1 (s_0.map (AV.int .i64)),AV.func (.func fk_f) [] caps_f]):ACall Tryz.prog 232 args0 h (.ret (AV.int .i64 res)) h:=by
 unfold m232 at hm
 refine ACall.mirR 0 Tryz.func232 rfl hargs (nlst rfl) ?_
 show SX _ _ _ 19 _ _ _ _
 refine SX.seq (SX.rr rfl ?_)
 refine SX.seq (SX.seq ?_)
 refine SX.rn 1 rfl (SOps.light rfl rfl (lightV_len (f:=(AV.int .i64)) (xs:=s_0) rfl rfl Tryz.underlying28 rfl) rdNone (SOps.re rfl ?_))
 obtain ⟨o8,ho8,hm⟩:=bindE hm
 refine SX.forget (al':=[(0,AV.vw 1 (s_0.map (AV.int .i64))),(1,AV.func (.func fk_f) [] caps_f),(7,AV.int .i64 ((s_0.length:Int))),(8,AV.int .i64 0)]) (leA_of rfl) ?_
 refine SX.iter (fun (s1:Int) (g2:Unit)=>[(0,AV.vw 1 (s_0.map (AV.int .i64))),(1,AV.func (.func fk_f) [] caps_f),(7,AV.int .i64 ((s_0.length:Int))),(8,AV.int .i64 s1)]) (fun (s1:Int) (g2:Unit)=>[]) (fun (x6:Unit) (g7:Unit)=>[]) (fun (x6:Unit) (g7:Unit)=>[]) (fun r al df h=>RetR Tryz.prog Tryz.f232 (AV.int .i64 r) al df h) () ho8 rfl rfl ?_ ?_ ?_
 ·intro s1 g2 out3 hb
  refine SX.seq (SX.rr rfl (SX.seq ?_))
  refine SX.condM rfl rfl hb (fun ht hb=>?_) (fun ht hb=>?_)
  ·refine SX.sk (SX.seq (SX.block (SX.seq (SX.rr rfl (SX.seq (SX.rn 3 rfl ?_))))))
   obtain ⟨y4,hy4,hb⟩:=bindE hb
   refine SOps.light rfl rfl (lightV_idx (f:=(AV.int .i64)) (xs:=s_0) rfl rfl Tryz.underlying28 rfl hy4) rdNone (SOps.rn 1 rfl ?_)
   obtain ⟨y5,hy5,hb⟩:=bindE hb
   refine SOps.call rfl rfl rfl rfl hcal_f (hf_f y4 y5 hy5 _) rdNone (SOps.nil rdNone ?_)
   refine SX.condM rfl rfl hb (fun ht hb=>?_) (fun ht hb=>?_)
   ·refine SX.seq (SX.rr rfl (SX.rt ?_))
    exact eI _ (aI (ojs hb) (RetR.mk (vs:=[AV.int .i64 s1]) rfl .int))
   ·refine SX.sk (SX.rr rfl ?_)
    exact eI _ (eI () (aI (ojs hb) (CutTo.sr rfl)))
  ·refine SX.ex ?_
   exact aI rfl (eI _ (eI () (aI (ojs hb) (CutTo.sr rfl))))
 ·intro x6 g7 he
  subst he
  refine SX.seq (SX.rr rfl (SX.rt ?_))
  obtain rfl:=oj hm
  exact RetRQ.mk (vs:=[AV.int .i64 ((-1))]) rfl .int
 ·intro r al' df' h' hr hq
  subst hr
  obtain rfl:=oj hm
  exact hq
def m174 (F:Nat) (s_0:List Int) (f:Int→Option Bool):Option Bool:=
 (m232 F s_0 f).bind fun y1=>
 some (decide (0≤y1))
theorem c174 (F:Nat) (s_0:List Int) (fk_f:FuncId) (caps_f:List AV) (f:Int→Option Bool) (hcal_f:callable Tryz.prog fk_f = true) (hcaps_f:ApartL caps_f) (hf_f:∀ z0 r,f z0 = some r→∀ h,ACall Tryz.prog fk_f ([AV.int .i64 z0] ++ caps_f) h (.ret (AV.bool r)) h) (res:Bool) (hm:m174 F s_0 f = some res) (h:List ABlk) (args0:List AV) (hargs:ReadL h args0 [AV.vw 1 (s_0.map (AV.int .i64)),AV.func (.func fk_f) [] caps_f]):ACall Tryz.prog 174 args0 h (.ret (AV.bool res)) h:=by
 unfold m174 at hm
 refine ACall.mirR 0 Tryz.func174 rfl hargs (nlst rfl) ?_
 show SX _ _ _ 9 _ _ _ _
 refine SX.seq (SX.rr rfl (SX.seq (SX.rn 2 rfl ?_)))
 obtain ⟨y1,hy1,hm⟩:=bindE hm
 refine SOps.call rfl rfl rfl rfl rfl (c232 F s_0 fk_f caps_f f hcal_f hcaps_f hf_f y1 hy1 _ _ (.cons (.apart (.vw (ApartL.map fun _ _=>.int))) (.cons (.apart (.func .nil hcaps_f)) .nil))) rdNone (SOps.re rfl (SX.rt ?_))
 obtain rfl:=oj hm
 exact RetRQ.mk (vs:=[AV.bool (decide (0≤y1))]) rfl .bool
def m175 (F:Nat) (s_0:Int) (a1:Spec):Option Bool:=
 (bif decide (s_0 < 0) then
 some (true)
 else
 some (decide ((a1.sorts.length:Int)≤s_0))).bind fun p1=>
 some p1
theorem c175 (F:Nat) (s_0:Int) (a1:Spec) (res:Bool) (hm:m175 F s_0 a1 = some res) (h:List ABlk):ACall Tryz.prog 175 [AV.int .i64 s_0,AV.rptr (a1.av)] h (.ret (AV.bool res)) h:=by
 unfold m175 at hm
 refine ACall.mir 0 Tryz.func175 rfl (.cons .int (.cons (.rptr (Spec.apart _)) .nil)) (nlst rfl) ?_ h
 show SX _ _ _ 13 _ _ _ _
 refine SX.seq (SX.rr rfl (SX.seq ?_))
 obtain ⟨p1,hj,hm⟩:=bindE hm
 refine SX.join ([(3,AV.bool p1)]) ([]) (SX.region ?_) ?_
 ·refine SOps.rn 2 rfl ?_
  refine SOps.splitM rfl rfl rfl rdNone hj (fun hj=>?_) (fun hj=>?_)
  ·refine SOps.re rfl ?_
   obtain rfl:=oj hj
   exact ⟨rfl,CutTo.sr rfl⟩
  ·refine SOps.rn 3 rfl (SOps.light rfl rfl (lightV_len (f:=Sort'.av) (xs:=a1.sorts) rfl rfl Tryz.underlying22 rfl) rdNone (SOps.re rfl ?_))
   obtain rfl:=oj hj
   exact ⟨rfl,CutTo.sr rfl⟩
 refine SX.rt ?_
 obtain rfl:=oj hm
 exact RetQ.mk (vs:=[AV.bool p1]) rfl (.apart .bool)
def m113 (F:Nat) (sp:Spec) (f:Field):Option Bool:=
 (bif decide ((f.sorts.length:Int) < 1) then
 some (true)
 else
 some (decide (3 < (f.sorts.length:Int)))).bind fun p1=>
 bif p1 then
 some false
 else
 (m174 F f.sorts (fun z0=>m175 F z0 sp)).bind fun y3=>
 some ((!y3))
theorem c113 (F:Nat) (sp:Spec) (f:Field) (res:Bool) (hm:m113 F sp f = some res) (h:List ABlk):ACall Tryz.prog 113 [sp.av,f.av] h (.ret (AV.bool res)) h:=by
 unfold m113 at hm
 refine ACall.mir 0 Tryz.func113 rfl (.cons (Spec.apart _) (.cons (Field.apart _) .nil)) (nlst rfl) ?_ h
 show SX _ _ _ 20 _ _ _ _
 refine SX.seq (SX.rr rfl ?_)
 refine SX.seq (SX.seq ?_)
 obtain ⟨p1,hj,hm⟩:=bindE hm
 refine SX.join ([(2,AV.ptr 0 0 0 0),(3,AV.ptr 1 0 0 0),(14,AV.bool p1)]) ([ABlk.row 0 4 [sp.av],ABlk.row 0 3 [f.av]]) (SX.region ?_) ?_
 ·refine SOps.rn 2 rfl (SOps.light rfl rfl (lightV_len (f:=(AV.int .i64)) (xs:=f.sorts) rfl rfl Tryz.underlying28 rfl) rdNone (SOps.rn 1 rfl ?_))
  refine SOps.splitM rfl rfl rfl rdNone hj (fun hj=>?_) (fun hj=>?_)
  ·refine SOps.re rfl ?_
   obtain rfl:=oj hj
   exact ⟨rfl,CutTo.sr rfl⟩
  ·refine SOps.rn 2 rfl (SOps.light rfl rfl (lightV_len (f:=(AV.int .i64)) (xs:=f.sorts) rfl rfl Tryz.underlying28 rfl) rdNone (SOps.re rfl ?_))
   obtain rfl:=oj hj
   exact ⟨rfl,CutTo.sr rfl⟩
 refine SX.condM rfl rfl hm (fun ht hm=>?_) (fun ht hm=>?_)
 ·refine SX.seq (SX.rr rfl (SX.rt ?_))
  obtain rfl:=oj hm
  exact RetQ.mk (vs:=[AV.bool false]) rfl (.apart .bool)
 ·refine SX.sk (SX.seq (SX.rn 3 rfl ?_))
  obtain ⟨y3,hy3,hm⟩:=bindE hm
  refine SOps.call rfl rfl rfl rfl rfl (c174 F f.sorts 175 [AV.rptr (sp.av)] (fun z0=>m175 F z0 sp) rfl (.cons (.rptr (Spec.apart _)) .nil) (fun z0 r hx h=>c175 F z0 sp r hx h) y3 hy3 _ _ (.cons (.apart (.vw (ApartL.map fun _ _=>.int))) (.cons (.func .nil (.cons (.ptr rfl rfl (Nat.succ_ne_zero _) (.apart (Spec.apart _))) .nil)) .nil))) rdNone (SOps.re rfl (SX.rt ?_))
  obtain rfl:=oj hm
  exact RetQ.mk (vs:=[AV.bool ((!y3))]) rfl (.apart .bool)
def m238 (F:Nat) (sc:Scope) (sort:Int):Option Int:=
 (slc sc.atoms 0 sort).bind fun y1=>
 (m173 F y1).bind fun y2=>
 some y2
theorem c238 (F:Nat) (sc:Scope) (sort:Int) (res:Int) (hm:m238 F sc sort = some res) (h:List ABlk):ACall Tryz.prog 238 [sc.av,AV.int .i64 sort] h (.ret (AV.int .i64 res)) h:=by
 unfold m238 at hm
 refine ACall.mir 0 Tryz.func238 rfl (.cons (Scope.apart _) (.cons .int .nil)) (nlst rfl) ?_ h
 show SX _ _ _ 10 _ _ _ _
 refine SX.seq (SX.rr rfl (SX.seq (SX.rn 3 rfl ?_)))
 obtain ⟨y1,hy1,hm⟩:=bindE hm
 refine SOps.light rfl rfl (lightV_slcH (f:=(AV.int .i64)) (xs:=sc.atoms) rfl rfl Tryz.underlying28 rfl hy1) rdNone ?_
 obtain ⟨y2,hy2,hm⟩:=bindE hm
 refine SOps.call rfl rfl rfl rfl rfl (c173 F y1 y2 hy2 _) rdNone (SOps.re rfl (SX.rt ?_))
 obtain rfl:=oj hm
 exact RetQ.mk (vs:=[AV.int .i64 y2]) rfl (.apart .int)
def m176 (F:Nat) (n:Int) (k:Int):Option Int:=
 (runs (fun (s1:Int×Int)=>
 (bif decide (s1.2 < k) then
 some (Out.next (w64 (s1.1 * n),w64 (s1.2 + 1)))
 else
 some (Out.exit (s1.1)):Option (Out (Int×Int) (Int) Int))) F (1,0)).bind fun (o6:(Int) ⊕ Int)=>(match o6 with
 | .inl x4=>
 some x4
 | .inr r7=>some r7)
theorem c176 (F:Nat) (n:Int) (k:Int) (res:Int) (hm:m176 F n k = some res) (h:List ABlk):ACall Tryz.prog 176 [AV.int .i64 n,AV.int .i64 k] h (.ret (AV.int .i64 res)) h:=by
 unfold m176 at hm
 refine ACall.mir 0 Tryz.func176 rfl (.cons .int (.cons .int .nil)) (nlst rfl) ?_ h
 show SX _ _ _ 14 _ _ _ _
 refine SX.seq (SX.rr rfl (SX.seq (SX.rr rfl ?_)))
 refine SX.seq (SX.seq ?_)
 refine SX.rr rfl ?_
 obtain ⟨o6,ho6,hm⟩:=bindE hm
 refine SX.forget (al':=[(0,AV.int .i64 n),(5,AV.int .i64 1),(6,AV.int .i64 k),(7,AV.int .i64 0)]) (leA_of rfl) ?_
 refine SX.iter (fun (s1:Int×Int) (g2:Unit)=>[(0,AV.int .i64 n),(5,AV.int .i64 s1.1),(6,AV.int .i64 k),(7,AV.int .i64 s1.2)]) (fun (s1:Int×Int) (g2:Unit)=>[]) (fun (x4:Int) (g5:Unit)=>[(5,AV.int .i64 x4)]) (fun (x4:Int) (g5:Unit)=>[]) (fun r al df h=>Ret Tryz.prog Tryz.f176 (AV.int .i64 r) al df h) () ho6 rfl rfl ?_ ?_ ?_
 ·intro s1 g2 out3 hb
  refine SX.seq (SX.rr rfl (SX.seq ?_))
  refine SX.condM rfl rfl hb (fun ht hb=>?_) (fun ht hb=>?_)
  ·refine SX.sk (SX.seq (SX.block (SX.rr rfl (SX.rr rfl ?_))))
   exact eI _ (eI () (aI (ojs hb) (CutTo.sr rfl)))
  ·refine SX.ex ?_
   exact aI rfl (eI _ (eI () (aI (ojs hb) (CutTo.sr rfl))))
 ·intro x4 g5 he
  subst he
  refine SX.seq (SX.rr rfl (SX.rt ?_))
  obtain rfl:=oj hm
  exact RetQ.mk (vs:=[AV.int .i64 x4]) rfl (.apart .int)
 ·intro r al' df' h' hr hq
  subst hr
  obtain rfl:=oj hm
  exact hq
def m114 (F:Nat) (n:Int) (r:Rel):Option Bool:=
 (bif decide (n < 0) then
 some (true)
 else
 bif decide (12 < n) then
 some (true)
 else
 bif decide (r.arity < 1) then
 some (true)
 else
 some (decide (3 < r.arity))).bind fun p1=>
 bif p1 then
 some false
 else
 (runs (fun (s3:Int×Int)=>
 (bif decide (s3.2 < (r.tuples.length:Int)) then
 (idx r.tuples s3.2).bind fun y6=>
 (bif decide (y6≤s3.1) then
 some (true)
 else
 (m176 F n r.arity).bind fun y7=>
 some (decide (y7≤y6))).bind fun p8=>
 bif p8 then
 some (Out.ret false)
 else
 some (Out.next (y6,w64 (s3.2 + 1)))
 else
 some (Out.exit (())):Option (Out (Int×Int) (Unit) Bool))) F ((-1),0)).bind fun (o12:(Unit) ⊕ Bool)=>(match o12 with
 | .inl x10=>
 some true
 | .inr r13=>some r13)
theorem c114 (F:Nat) (n:Int) (r:Rel) (res:Bool) (hm:m114 F n r = some res) (h:List ABlk):ACall Tryz.prog 114 [AV.int .i64 n,r.av] h (.ret (AV.bool res)) h:=by
 unfold m114 at hm
 refine ACall.mir 0 Tryz.func114 rfl (.cons .int (.cons (Rel.apart _) .nil)) (nlst rfl) ?_ h
 show SX _ _ _ 44 _ _ _ _
 refine SX.seq (SX.rr rfl ?_)
 refine SX.seq (SX.seq ?_)
 obtain ⟨p1,hj,hm⟩:=bindE hm
 refine SX.join ([(0,AV.int .i64 n),(3,AV.ptr 0 0 0 0),(23,AV.bool p1)]) ([ABlk.row 0 2 [r.av]]) (SX.region ?_) ?_
 ·refine SOps.rn 2 rfl ?_
  refine SOps.splitM rfl rfl rfl rdNone hj (fun hj=>?_) (fun hj=>?_)
  ·refine SOps.re rfl ?_
   obtain rfl:=oj hj
   exact ⟨rfl,CutTo.sr rfl⟩
  ·refine SOps.rn 3 rfl ?_
   refine SOps.splitM rfl rfl rfl rdNone hj (fun hj=>?_) (fun hj=>?_)
   ·refine SOps.re rfl ?_
    obtain rfl:=oj hj
    exact ⟨rfl,CutTo.sr rfl⟩
   ·refine SOps.rn 4 rfl ?_
    refine SOps.splitM rfl rfl rfl rdNone hj (fun hj=>?_) (fun hj=>?_)
    ·refine SOps.re rfl ?_
     obtain rfl:=oj hj
     exact ⟨rfl,CutTo.sr rfl⟩
    ·refine SOps.re rfl ?_
     obtain rfl:=oj hj
     exact ⟨rfl,CutTo.sr rfl⟩
 refine SX.condM rfl rfl hm (fun ht hm=>?_) (fun ht hm=>?_)
 ·refine SX.seq (SX.rr rfl (SX.rt ?_))
  obtain rfl:=oj hm
  exact RetQ.mk (vs:=[AV.bool false]) rfl (.apart .bool)
 ·refine SX.sk (SX.seq (SX.rr rfl ?_))
  refine SX.seq (SX.seq ?_)
  refine SX.rn 2 rfl (SOps.light rfl rfl (lightV_len (f:=(AV.int .i64)) (xs:=r.tuples) rfl rfl Tryz.underlying28 rfl) rdNone (SOps.re rfl ?_))
  obtain ⟨o12,ho12,hm⟩:=bindE hm
  refine SX.forget (al':=[(0,AV.int .i64 n),(3,AV.ptr 0 0 0 0),(5,AV.int .i64 ((-1))),(25,AV.vw 1 (r.tuples.map (AV.int .i64))),(26,AV.int .i64 ((r.tuples.length:Int))),(27,AV.int .i64 0)]) (leA_of rfl) ?_
  refine SX.iter (fun (s3:Int×Int) (g4:Unit)=>[(0,AV.int .i64 n),(3,AV.ptr 0 0 0 0),(5,AV.int .i64 s3.1),(25,AV.vw 1 (r.tuples.map (AV.int .i64))),(26,AV.int .i64 ((r.tuples.length:Int))),(27,AV.int .i64 s3.2)]) (fun (s3:Int×Int) (g4:Unit)=>[ABlk.row 0 2 [r.av]]) (fun (x10:Unit) (g11:Unit)=>[]) (fun (x10:Unit) (g11:Unit)=>[ABlk.row 0 2 [r.av]]) (fun r al df h=>Ret Tryz.prog Tryz.f114 (AV.bool r) al df h) () ho12 rfl rfl ?_ ?_ ?_
  ·intro s3 g4 out5 hb
   refine SX.seq (SX.rr rfl (SX.seq ?_))
   refine SX.condM rfl rfl hb (fun ht hb=>?_) (fun ht hb=>?_)
   ·refine SX.sk (SX.seq (SX.block (SX.seq (SX.region ?_))))
    obtain ⟨y6,hy6,hb⟩:=bindE hb
    refine SOps.light rfl rfl (lightV_idx (f:=(AV.int .i64)) (xs:=r.tuples) rfl rfl Tryz.underlying28 rfl hy6) rdNone (SOps.re rfl ?_)
    refine SX.seq (SX.seq ?_)
    obtain ⟨p8,hj,hb⟩:=bindE hb
    refine SX.join ([(0,AV.int .i64 n),(3,AV.ptr 0 0 0 0),(7,AV.int .i64 y6),(25,AV.vw 1 (r.tuples.map (AV.int .i64))),(26,AV.int .i64 ((r.tuples.length:Int))),(27,AV.int .i64 s3.2),(41,AV.bool p8)]) ([ABlk.row 0 2 [r.av]]) (SX.region ?_) ?_
    ·refine SOps.rn 3 rfl ?_
     refine SOps.splitM rfl rfl rfl rdNone hj (fun hj=>?_) (fun hj=>?_)
     ·refine SOps.re rfl ?_
      obtain rfl:=oj hj
      exact ⟨rfl,CutTo.sr rfl⟩
     ·refine SOps.rn 4 rfl ?_
      obtain ⟨y7,hy7,hj⟩:=bindE hj
      refine SOps.call rfl rfl rfl rfl rfl (c176 F n r.arity y7 hy7 _) rdNone (SOps.re rfl ?_)
      obtain rfl:=oj hj
      exact ⟨rfl,CutTo.sr rfl⟩
    refine SX.condM rfl rfl hb (fun ht hb=>?_) (fun ht hb=>?_)
    ·refine SX.seq (SX.rr rfl (SX.rt ?_))
     exact eI _ (aI (ojs hb) (Ret.mk (vs:=[AV.bool false]) rfl (.apart .bool)))
    ·refine SX.sk (SX.rr rfl (SX.rr rfl ?_))
     exact eI _ (eI () (aI (ojs hb) (CutTo.sr rfl)))
   ·refine SX.ex ?_
    exact aI rfl (eI _ (eI () (aI (ojs hb) (CutTo.sr rfl))))
  ·intro x10 g11 he
   subst he
   refine SX.seq (SX.rr rfl (SX.rt ?_))
   obtain rfl:=oj hm
   exact RetQ.mk (vs:=[AV.bool true]) rfl (.apart .bool)
  ·intro r al' df' h' hr hq
   subst hr
   obtain rfl:=oj hm
   exact hq
def m117 (F:Nat) (a:Rel) (b:Rel):Option Bool:=
 (bif (a.arity == b.arity) then
 (m65 F a.tuples b.tuples).bind fun y1=>
 some (y1)
 else
 some (false)).bind fun p2=>
 some p2
theorem c117 (F:Nat) (a:Rel) (b:Rel) (res:Bool) (hm:m117 F a b = some res) (h:List ABlk):ACall Tryz.prog 117 [a.av,b.av] h (.ret (AV.bool res)) h:=by
 unfold m117 at hm
 refine ACall.mir 0 Tryz.func117 rfl (.cons (Rel.apart _) (.cons (Rel.apart _) .nil)) (nlst rfl) ?_ h
 show SX _ _ _ 17 _ _ _ _
 refine SX.seq (SX.rr rfl (SX.seq ?_))
 obtain ⟨p2,hj,hm⟩:=bindE hm
 refine SX.join ([(4,AV.bool p2)]) ([ABlk.row 0 2 [a.av],ABlk.row 0 2 [b.av]]) (SX.region ?_) ?_
 ·refine SOps.rn 5 rfl ?_
  refine SOps.splitM rfl rfl rfl rdNone hj (fun hj=>?_) (fun hj=>?_)
  ·refine SOps.rn 4 rfl ?_
   obtain ⟨y1,hy1,hj⟩:=bindE hj
   refine SOps.call rfl rfl rfl rfl rfl (c65 F a.tuples b.tuples y1 hy1 _) rdNone (SOps.re rfl ?_)
   obtain rfl:=oj hj
   exact ⟨rfl,CutTo.sr rfl⟩
  ·refine SOps.re rfl ?_
   obtain rfl:=oj hj
   exact ⟨rfl,CutTo.sr rfl⟩
 refine SX.rt ?_
 obtain rfl:=oj hm
 exact RetQ.mk (vs:=[AV.bool p2]) rfl (.apart .bool)
def m180 (F:Nat) (x:Int):Option Bool:=
 some ((x != x))
theorem c180 (F:Nat) (x:Int) (res:Bool) (hm:m180 F x = some res) (h:List ABlk):ACall Tryz.prog 180 [AV.int .i64 x] h (.ret (AV.bool res)) h:=by
 unfold m180 at hm
 refine ACall.mir 0 Tryz.func180 rfl (.cons .int .nil) (nlst rfl) ?_ h
 show SX _ _ _ 6 _ _ _ _
 refine SX.seq (SX.rr rfl (SX.seq (SX.rr rfl (SX.rt ?_))))
 obtain rfl:=oj hm
 exact RetQ.mk (vs:=[AV.bool ((x != x))]) rfl (.apart .bool)
def m122 (F:Nat) (x:Int) (y_1:Int):Option Bool:=
 ((m180 F x).bind fun y1=>
 bif y1 then
 (m180 F y_1).bind fun y2=>
 bif (!y2) then
 some (true)
 else
 some (decide (x < y_1))
 else
 some (decide (x < y_1))).bind fun p3=>
 some p3
theorem c122 (F:Nat) (x:Int) (y_1:Int) (res:Bool) (hm:m122 F x y_1 = some res) (h:List ABlk):ACall Tryz.prog 122 [AV.int .i64 x,AV.int .i64 y_1] h (.ret (AV.bool res)) h:=by
 unfold m122 at hm
 refine ACall.mir 0 Tryz.func122 rfl (.cons .int (.cons .int .nil)) (nlst rfl) ?_ h
 show SX _ _ _ 17 _ _ _ _
 refine SX.seq (SX.rr rfl (SX.seq ?_))
 obtain ⟨p3,hj,hm⟩:=bindE hm
 refine SX.join ([(4,AV.bool p3)]) ([]) (SX.region ?_) ?_
 ·refine SOps.rn 1 rfl ?_
  obtain ⟨y1,hy1,hj⟩:=bindE hj
  refine SOps.call rfl rfl rfl rfl rfl (c180 F x y1 hy1 _) rdNone ?_
  refine SOps.splitM rfl rfl rfl rdNone hj (fun hj=>?_) (fun hj=>?_)
  ·refine SOps.rn 1 rfl ?_
   obtain ⟨y2,hy2,hj⟩:=bindE hj
   refine SOps.call rfl rfl rfl rfl rfl (c180 F y_1 y2 hy2 _) rdNone (SOps.rn 2 rfl ?_)
   refine SOps.splitM rfl rfl rfl rdNone hj (fun hj=>?_) (fun hj=>?_)
   ·refine SOps.re rfl ?_
    obtain rfl:=oj hj
    exact ⟨rfl,CutTo.sr rfl⟩
   ·refine SOps.re rfl ?_
    obtain rfl:=oj hj
    exact ⟨rfl,CutTo.sr rfl⟩
  ·refine SOps.re rfl ?_
   obtain rfl:=oj hj
   exact ⟨rfl,CutTo.sr rfl⟩
 refine SX.rt ?_
 obtain rfl:=oj hm
 exact RetQ.mk (vs:=[AV.bool p3]) rfl (.apart .bool)
def m123 (F:Nat) (x:Int):Option Bool:=
 some ((x != x))
theorem c123 (F:Nat) (x:Int) (res:Bool) (hm:m123 F x = some res) (h:List ABlk):ACall Tryz.prog 123 [AV.int .i64 x] h (.ret (AV.bool res)) h:=by
 unfold m123 at hm
 refine ACall.mir 0 Tryz.func123 rfl (.cons .int .nil) (nlst rfl) ?_ h
 show SX _ _ _ 6 _ _ _ _
 refine SX.seq (SX.rr rfl (SX.seq (SX.rr rfl (SX.rt ?_))))
 obtain rfl:=oj hm
 exact RetQ.mk (vs:=[AV.bool ((x != x))]) rfl (.apart .bool)
def m69 (F:Nat) (x:List Int) (target:Int):Option (Int×Bool):=
 (runs (fun (s1:Int×Int)=>
 (bif decide (s1.1 < s1.2) then
 (idx x (IntKind.i64.wrap (Int.fdiv (IntKind.u64.wrap (w64 (s1.1 + s1.2))) (2 ^ (min (1:Int).toNat 64))))).bind fun y4=>
 (m122 F y4 target).bind fun y5=>
 bif y5 then
 some (Out.next (w64 (IntKind.i64.wrap (Int.fdiv (IntKind.u64.wrap (w64 (s1.1 + s1.2))) (2 ^ (min (1:Int).toNat 64))) + 1),s1.2))
 else
 some (Out.next (s1.1,IntKind.i64.wrap (Int.fdiv (IntKind.u64.wrap (w64 (s1.1 + s1.2))) (2 ^ (min (1:Int).toNat 64)))))
 else
 some (Out.exit (s1.1)):Option (Out (Int×Int) (Int) (Int×Bool)))) F (0,(x.length:Int))).bind fun (o8:(Int) ⊕ (Int×Bool))=>(match o8 with
 | .inl x6=>
 (bif decide (x6 < (x.length:Int)) then
 (idx x x6).bind fun y9=>
 bif (y9 == target) then
 some (x6,true)
 else
 (idx x x6).bind fun y10=>
 (m123 F y10).bind fun y11=>
 bif y11 then
 (m123 F target).bind fun y12=>
 some (x6,y12)
 else
 some (x6,false)
 else
 some (x6,false)).bind fun p13=>
 some ((p13.1,p13.2))
 | .inr r15=>some r15)
theorem c69 (F:Nat) (x:List Int) (target:Int) (res:(Int×Bool)) (hm:m69 F x target = some res) (h:List ABlk):ACall Tryz.prog 69 [AV.vw 1 (x.map (AV.int .i64)),AV.int .i64 target] h (.ret (AV.tup [AV.int .i64 res.1,AV.bool res.2])) h:=by
 unfold m69 at hm
 refine ACall.mir 0 Tryz.func69 rfl (.cons (.vw (ApartL.map fun _ _=>.int)) (.cons .int .nil)) (nlst rfl) ?_ h
 show SX _ _ _ 54 _ _ _ _
 refine SX.seq (SX.rr rfl (SX.seq (SX.rn 1 rfl (SOps.light rfl rfl (lightV_len (f:=(AV.int .i64)) (xs:=x) rfl rfl Tryz.underlying28 rfl) rdNone (SOps.re rfl (SX.seq (SX.rr rfl (SX.seq ?_))))))))
 obtain ⟨o8,ho8,hm⟩:=bindE hm
 refine SX.forget (al':=[(0,AV.vw 1 (x.map (AV.int .i64))),(1,AV.int .i64 target),(6,AV.int .i64 ((x.length:Int))),(7,AV.int .i64 0),(8,AV.int .i64 ((x.length:Int)))]) (leA_of rfl) ?_
 refine SX.iter (fun (s1:Int×Int) (g2:Unit)=>[(0,AV.vw 1 (x.map (AV.int .i64))),(1,AV.int .i64 target),(6,AV.int .i64 ((x.length:Int))),(7,AV.int .i64 s1.1),(8,AV.int .i64 s1.2)]) (fun (s1:Int×Int) (g2:Unit)=>[]) (fun (x6:Int) (g7:Unit)=>[(0,AV.vw 1 (x.map (AV.int .i64))),(1,AV.int .i64 target),(6,AV.int .i64 ((x.length:Int))),(7,AV.int .i64 x6)]) (fun (x6:Int) (g7:Unit)=>[]) (fun r al df h=>Ret Tryz.prog Tryz.f69 (AV.tup [AV.int .i64 r.1,AV.bool r.2]) al df h) () ho8 rfl rfl ?_ ?_ ?_
 ·intro s1 g2 out3 hb
  refine SX.seq (SX.seq ?_)
  refine SX.rr rfl ?_
  refine SX.condM rfl rfl hb (fun ht hb=>?_) (fun ht hb=>?_)
  ·refine SX.sk (SX.block (SX.seq (SX.rr rfl (SX.seq (SX.rn 2 rfl ?_)))))
   obtain ⟨y4,hy4,hb⟩:=bindE hb
   refine SOps.light rfl rfl (lightV_idx (f:=(AV.int .i64)) (xs:=x) rfl rfl Tryz.underlying28 rfl hy4) rdNone (SOps.rn 2 rfl ?_)
   obtain ⟨y5,hy5,hb⟩:=bindE hb
   refine SOps.call rfl rfl rfl rfl rfl (c122 F y4 target y5 hy5 _) rdNone (SOps.nil rdNone ?_)
   refine SX.condM rfl rfl hb (fun ht hb=>?_) (fun ht hb=>?_)
   ·refine SX.rr rfl ?_
    exact eI _ (eI () (aI (ojs hb) (CutTo.sr rfl)))
   ·refine SX.rr rfl ?_
    exact eI _ (eI () (aI (ojs hb) (CutTo.sr rfl)))
  ·refine SX.ex ?_
   exact aI rfl (eI _ (eI () (aI (ojs hb) (CutTo.sr rfl))))
 ·intro x6 g7 he
  subst he
  refine SX.seq ?_
  obtain ⟨p13,hj,hm⟩:=bindE hm
  refine SX.join ([(4,AV.int .i64 p13.1),(5,AV.bool p13.2)]) ([]) (SX.region ?_) ?_
  ·refine SOps.rn 4 rfl ?_
   refine SOps.splitM rfl rfl rfl rdNone hj (fun hj=>?_) (fun hj=>?_)
   ·refine SOps.rn 2 rfl ?_
    obtain ⟨y9,hy9,hj⟩:=bindE hj
    refine SOps.light rfl rfl (lightV_idx (f:=(AV.int .i64)) (xs:=x) rfl rfl Tryz.underlying28 rfl hy9) rdNone (SOps.rn 3 rfl ?_)
    refine SOps.splitM rfl rfl rfl rdNone hj (fun hj=>?_) (fun hj=>?_)
    ·refine SOps.re rfl ?_
     obtain rfl:=oj hj
     exact ⟨rfl,CutTo.sr rfl⟩
    ·refine SOps.rn 2 rfl ?_
     obtain ⟨y10,hy10,hj⟩:=bindE hj
     refine SOps.light rfl rfl (lightV_idx (f:=(AV.int .i64)) (xs:=x) rfl rfl Tryz.underlying28 rfl hy10) rdNone (SOps.rn 1 rfl ?_)
     obtain ⟨y11,hy11,hj⟩:=bindE hj
     refine SOps.call rfl rfl rfl rfl rfl (c123 F y10 y11 hy11 _) rdNone ?_
     refine SOps.splitM rfl rfl rfl rdNone hj (fun hj=>?_) (fun hj=>?_)
     ·refine SOps.rn 1 rfl ?_
      obtain ⟨y12,hy12,hj⟩:=bindE hj
      refine SOps.call rfl rfl rfl rfl rfl (c123 F target y12 hy12 _) rdNone (SOps.re rfl ?_)
      obtain rfl:=oj hj
      exact ⟨rfl,CutTo.sr rfl⟩
     ·refine SOps.re rfl ?_
      obtain rfl:=oj hj
      exact ⟨rfl,CutTo.sr rfl⟩
   ·refine SOps.re rfl ?_
    obtain rfl:=oj hj
    exact ⟨rfl,CutTo.sr rfl⟩
  refine SX.rt ?_
  obtain rfl:=oj hm
  exact RetQ.mk (vs:=[AV.int .i64 p13.1,AV.bool p13.2]) rfl (.tup (.cons (.apart .int) (.cons (.apart .bool) .nil)))
 ·intro r al' df' h' hr hq
  subst hr
  obtain rfl:=oj hm
  exact hq
end Go.AL
namespace Go.AL
open Go
set_option maxRecDepth 4000
theorem getE {α:Type} {l:List α} {i:Nat} (h:i < l.length):∃ x,l[i]? = some x:=⟨l[i],by simp [h]⟩
theorem getLt {α:Type} {l:List α} {i:Nat} {x:α} (h:l[i]? = some x):i < l.length:=(List.getElem?_eq_some_iff.1 h).1
section
variable {α β:Type} {P:β→Prop}
theorem Ev.ix {l:List α} {i:Nat} {x:α} (h:l[i]? = some x):Ev (fun y=>y = x) (fun _=>Go.AL.idx l (i:Int)):=(Ev.idxN (getLt h)).mono fun y hy=>by rw [h] at hy; cases hy; rfl
theorem Ev.ixb {l:List α} {i:Nat} {x:α} {k:α→Nat→Option β} (h:l[i]? = some x) (hk:Ev P (k x)):Ev P (fun F=>(Go.AL.idx l (i:Int)).bind fun y=>k y F):=Ev.bind (Ev.ix h) fun y e=>by subst e; exact hk
theorem Ev.ixi {l:List α} {i:Int} {x:α} {k:α→Nat→Option β} (h0:0≤i) (h:l[i.toNat]? = some x) (hk:Ev P (k x)):Ev P (fun F=>(Go.AL.idx l i).bind fun y=>k y F):=by
 refine Ev.bind (Ev.idx h0 (by have:=getLt h; omega)) fun y hy=>?_
 rw [h] at hy; cases hy; exact hk
end
theorem bnot_t {b:Bool} (h:(!b) = false):b = true:=by simpa using h
theorem bnot_f {b:Bool} (h:(!b) = true):b = false:=by simpa using h
theorem eEqL {a b:List Int} (hl:a.length = b.length) (hb:a.length < 4611686018427387904):Ev (OnS (fun (_:Unit)=>a = b) (fun r=>r = false∧a ≠ b)) (fun F=>runs (fun (s:Int)=>
  (bif decide (s < (a.length:Int)) then (idx a s).bind fun y=>(idx b s).bind fun z=>bif (y != z) then some (Out.ret false) else some (Out.next (w64 (s + 1))) else some (Out.exit ()):Option (Out Int Unit Bool))) F 0):=by
 refine Ev.each hb (fun i=>∀ j,j < i→a[j]? = b[j]?) (fun j hj=>by omega) (fun i hi hA=>?_) (fun hA=>?_)
 ·obtain ⟨x,hx⟩:=getE hi
  obtain ⟨y,hy⟩:=getE (show i < b.length by omega)
  refine Ev.ixb hx (Ev.ixb hy ?_)
  refine Ev.ite (fun hne=>Ev.pure ⟨rfl,fun e=>?_⟩) (fun he=>Ev.pure ⟨rfl,fun j hj=>?_⟩)
  ·subst e; rw [hx] at hy; cases hy; simp at hne
  ·by_cases e:j = i
   ·subst e; rw [hx,hy]; simp at he; rw [he]
   ·exact hA j (by omega)
 ·show a = b
  refine List.ext_getElem? fun j=>?_
  by_cases hj:j < a.length
  ·exact hA j hj
  ·rw [List.getElem?_eq_none (by omega),List.getElem?_eq_none (by omega)]
theorem e29 (a b:List Int) (ha:a.length≤LIM):Ev (fun r=>r = true↔a = b) (fun F=>m29 F a b):=by
 simp only [LIM] at ha
 unfold m29
 refine Ev.ite (fun h=>Ev.pure ⟨fun h=>(by cases h),fun e=>?_⟩) (fun h=>?_)
 ·subst e; simp at h
 have hl:a.length = b.length:=by simp at h; omega
 exact Ev.bindS _ _ (eEqL hl (by omega)) (fun _ e=>Ev.pure ⟨fun _=>e,fun _=>rfl⟩) (fun r hr=>Ev.pure ⟨fun h=>(by rw [hr.1] at h; cases h),fun e=>(hr.2 e).elim⟩)
theorem e65 (a b:List Int) (ha:a.length≤LIM):Ev (fun r=>r = true↔a = b) (fun F=>m65 F a b):=by
 simp only [LIM] at ha
 unfold m65
 refine Ev.ite (fun h=>Ev.pure ⟨fun h=>(by cases h),fun e=>?_⟩) (fun h=>?_)
 ·subst e; simp at h
 have hl:a.length = b.length:=by simp at h; omega
 exact Ev.bindS _ _ (eEqL hl (by omega)) (fun _ e=>Ev.pure ⟨fun _=>e,fun _=>rfl⟩) (fun r hr=>Ev.pure ⟨fun h=>(by rw [hr.1] at h; cases h),fun e=>(hr.2 e).elim⟩)
theorem e38 (a b:Rel) (ha:a.tuples.length≤LIM):Ev (fun r=>r = true↔a = b) (fun F=>m38 F a b):=by
 simp only [LIM] at ha
 have hE:a = b↔a.arity = b.arity∧a.tuples = b.tuples:=by cases a; cases b; simp
 unfold m38
 refine Ev.bind (P:=fun p=>p = false↔a.arity = b.arity∧a.tuples.length = b.tuples.length) ?_ (fun p hp=>?_)
 ·refine Ev.ite (fun h=>Ev.pure ⟨fun h=>(by cases h),fun h2=>?_⟩) (fun h=>Ev.pure ⟨fun h2=>?_,fun h2=>?_⟩)
  ·rw [h2.1] at h; simp at h
  ·simp at h h2; exact ⟨h,by omega⟩
  ·simp [h2.2]
 refine Ev.ite (fun h=>Ev.pure ⟨fun h=>(by cases h),fun e=>?_⟩) (fun h=>?_)
 ·have:=hp.2 ⟨by rw [e],by rw [e]⟩
  rw [h] at this; cases this
 obtain ⟨h1,hl⟩:=hp.1 h
 exact Ev.bindS _ _ (eEqL hl (by omega)) (fun _ e=>Ev.pure ⟨fun _=>hE.2 ⟨h1,e⟩,fun _=>rfl⟩) (fun r hr=>Ev.pure ⟨fun h=>(by rw [hr.1] at h; cases h),fun e=>(hr.2 (hE.1 e).2).elim⟩)
theorem e117 (a b:Rel) (ha:a.tuples.length≤LIM):Ev (fun r=>r = true↔a = b) (fun F=>m117 F a b):=by
 have hE:a = b↔a.arity = b.arity∧a.tuples = b.tuples:=by cases a; cases b; simp
 unfold m117
 refine Ev.bind (P:=fun r=>r = true↔a = b) ?_ (fun r hr=>Ev.pure hr)
 refine Ev.ite (fun h=>?_) (fun h=>Ev.pure ⟨fun h=>(by cases h),fun e=>?_⟩)
 ·have h1:a.arity = b.arity:=by simpa using h
  exact Ev.bind (e65 _ _ ha) (fun y hy=>Ev.pure ⟨fun h=>hE.2 ⟨h1,hy.1 h⟩,fun e=>hy.2 (hE.1 e).2⟩)
 ·rw [e] at h; simp at h
def fst (l:List Int) (s:Nat):Int:=(l.take s).sum
theorem fst_succ {l:List Int} {s:Nat} {a:Int} (h:l[s]? = some a):fst l (s + 1) = fst l s + a:=sum_take_succ h
theorem fst_mono {l:List Int} (h:ScA l) {i j:Nat} (hij:i≤j):fst l i≤fst l j:=by
 obtain ⟨d,rfl⟩:∃ d,j = i + d:=⟨j - i,by omega⟩
 induction d with
 | zero=>exact Int.le_refl _
 | succ d ih=>
  have ih:=ih (by omega)
  cases hx:l[i + d]? with
  | none=>
   have:l.length≤i + d:=by simpa using hx
   unfold fst at *
   rw [List.take_of_length_le (show l.length≤i + d by omega)] at ih
   rw [List.take_of_length_le (show l.length≤i + (d + 1) by omega)]
   exact ih
  | some x=>
   have:=fst_succ hx
   have:=h.2 x (List.mem_of_getElem? hx)
   rw [show i + (d + 1) = i + d + 1 by omega]
   omega
theorem fst_len {l:List Int}:fst l l.length = l.sum:=by unfold fst; rw [List.take_length]
theorem fst_zero {l:List Int}:fst l 0 = 0:=rfl
theorem fst_rng {l:List Int} (h:ScA l) (i:Nat):0≤fst l i∧fst l i≤20:=by
 have a:=sum_rng h i
 have b:=sum_rng h l.length
 have c:=h.1
 by_cases hi:i≤l.length
 ·have:=fst_mono h hi
  unfold fst at *
  omega
 ·unfold fst
  rw [List.take_of_length_le (by omega)]
  rw [List.take_length] at b
  omega
theorem e127 (sc:Scope) (h:ScA sc.atoms) (d:Int) (h0:0≤d) (h1:d < 1000):Ev (fun r=>∀ s:Nat,r = (s:Int)↔s < sc.atoms.length∧fst sc.atoms s≤d∧d < fst sc.atoms (s + 1)) (fun F=>m127 F sc d):=by
 have hl:=h.1
 unfold m127
 refine Ev.bindS (fun (_:Unit)=>fst sc.atoms sc.atoms.length≤d) (fun (r:Int)=>∀ s:Nat,r = (s:Int)↔s < sc.atoms.length∧fst sc.atoms s≤d∧d < fst sc.atoms (s + 1)) ?_ (fun _ hx=>Ev.pure fun s=>⟨fun hs=>by omega,fun hs=>?_⟩) (fun r hr=>Ev.pure hr)
 ·refine Ev.loop (T:=Int) sc.atoms.length (fun i t=>(t,(i:Int))) (fun i t=>t = d - fst sc.atoms i∧0≤t) rfl ⟨by rw [fst_zero]; omega,h0⟩ (fun i t hi ht=>Ev.dt (Int.ofNat_lt.2 hi) ?_) (fun t ht=>Ev.df (Int.lt_irrefl _) (Ev.pure ?_))
  ·obtain ⟨a,ha⟩:=getE hi
   have hs:=fst_succ ha
   have har:=h.2 a (List.mem_of_getElem? ha)
   have hf:=fst_rng h i
   refine Ev.ixb ha (Ev.dec (fun hlt=>Ev.pure ?_) (fun hge=>Ev.ixb ha (Ev.pure ⟨_,by rw [w64_succ (by omega)],?_⟩)))
   ·intro s
    have hlt:t < a:=hlt
    constructor
    ·intro e
     have e:i = s:=by omega
     subst e
     exact ⟨hi,by omega,by omega⟩
    ·rintro ⟨q1,q2,q3⟩
     show (i:Int) = s
     rcases Nat.lt_trichotomy s i with hsi | hsi | hsi
     ·have:=fst_mono h (show s + 1≤i by omega)
      omega
     ·omega
     ·have:=fst_mono h (show i + 1≤s by omega)
      omega
   ·have hge:¬ t < a:=hge
    rw [w64_id (by omega) (by omega)]
    exact ⟨by omega,by omega⟩
  ·show fst _ _≤d
   omega
 ·have:=fst_mono h (show s + 1≤sc.atoms.length by omega)
  omega
def typedR (sc:Scope):List Int→Int→Prop
 | [],t=>t = 0
 | c :: cs,t=>(fst sc.atoms c.toNat≤t % sc.atoms.sum∧t % sc.atoms.sum < fst sc.atoms (c.toNat + 1))∧typedR sc cs (t / sc.atoms.sum)
def Typed (sc:Scope) (sorts:List Int) (t:Int):Prop:=typedR sc sorts.reverse t
theorem take_rev {α:Type} {l:List α} {m:Nat} {x:α} (h:l[m]? = some x):(l.take (m + 1)).reverse = x :: (l.take m).reverse:=by
 rw [List.take_add_one,h]; simp
theorem e81in (sc:Scope) (h:ScA sc.atoms) (hn1:1≤sc.atoms.sum) (sorts:List Int) (hs:∀ s ∈ sorts,0≤s∧s < sc.atoms.length) (hl3:sorts.length≤3) (t:Int) (ht0:0≤t) (ht1:t < sc.atoms.sum ^ sorts.length) :
  Ev (OnS (fun (_:Unit)=>Typed sc sorts t) (fun r=>r = false∧¬ Typed sc sorts t)) (fun F=>runs (fun (s6:Int×Int)=>
  (bif decide (0≤s6.2) then
  (remO s6.1 (mm64 true 1 sc.atoms.sum)).bind fun y9=>
  (m127 F sc y9).bind fun y10=>
  (idx sorts s6.2).bind fun y11=>
  bif (y10 != y11) then
  some (Out.ret false)
  else
  (quoO s6.1 (mm64 true 1 sc.atoms.sum)).bind fun y12=>
  some (Out.next (y12,w64 (s6.2 - 1)))
  else
  some (Out.exit (())):Option (Out (Int×Int) (Unit) Bool))) F (t,w64 ((sorts.length:Int) - 1))):=by
 have hn:=sum_len h
 have hmm:mm64 true 1 sc.atoms.sum = sc.atoms.sum:=by
  unfold mm64
  simp only [if_true]
  split <;> omega
 rw [hmm]
 have hp8:∀ m:Nat,m≤3→0≤sc.atoms.sum ^ m∧sc.atoms.sum ^ m≤8000:=fun m hm=>pow_rng3 hn.1 hn.2 hm
 refine Ev.runs (fun s=>∃ m:Nat,s.2 = (m:Int) - 1∧m≤sorts.length∧0≤s.1∧s.1 < sc.atoms.sum ^ m∧(typedR sc (sorts.take m).reverse s.1↔Typed sc sorts t)) (fun s=>(s.2 + 1).toNat) ?_ (fun s hi=>?_)
 ·refine ⟨sorts.length,by rw [w64_id (by omega) (by omega)],Nat.le_refl _,ht0,ht1,?_⟩
  rw [List.take_length]; exact Iff.rfl
 obtain ⟨q,j⟩:=s
 obtain ⟨m,hj,hm,hq0,hq1,hiff⟩:=hi
 simp only at hj hq0 hq1 hiff ⊢
 subst hj
 refine Ev.dec (fun hge=>?_) (fun hlt=>Ev.pure ?_)
 ·obtain ⟨m,rfl⟩:∃ k,m = k + 1:=⟨m - 1,by omega⟩
  obtain ⟨c,hc⟩:=getE (show m < sorts.length by omega)
  have hcr:=hs c (List.mem_of_getElem? hc)
  have e1:(((m + 1:Nat):Int) - 1) = (m:Int):=by omega
  rw [e1]
  have hq8:=hp8 (m + 1) (by omega)
  have hmod0:0≤q % sc.atoms.sum:=Int.emod_nonneg _ (by omega)
  have hmod1:q % sc.atoms.sum < sc.atoms.sum:=Int.emod_lt_of_pos _ (by omega)
  refine Ev.bind (Ev.remO (by omega)) (fun y9 hy9=>?_)
  rw [Int.tmod_eq_emod_of_nonneg hq0] at hy9
  subst hy9
  refine Ev.bind (e127 sc h _ hmod0 (by omega)) (fun y10 hy10=>Ev.ixb hc ?_)
  have hT:typedR sc (sorts.take (m + 1)).reverse q↔(fst sc.atoms c.toNat≤q % sc.atoms.sum∧q % sc.atoms.sum < fst sc.atoms (c.toNat + 1))∧typedR sc (sorts.take m).reverse (q / sc.atoms.sum):=by
   rw [take_rev hc]; exact Iff.rfl
  have hcc:=hy10 c.toNat
  rw [Int.toNat_of_nonneg hcr.1] at hcc
  refine Ev.ite (fun hne=>Ev.pure ⟨rfl,fun hty=>?_⟩) (fun heq=>?_)
  ·have:=hT.1 (hiff.2 hty)
   have:=hcc.2 ⟨by omega,this.1⟩
   rw [this] at hne; simp at hne
  ·have heq:y10 = c:=by simpa using heq
   have hfits:=(hcc.1 heq).2
   refine Ev.bind (Ev.quoO (by omega)) (fun y12 hy12=>Ev.pure ?_)
   have hd0:0≤q / sc.atoms.sum:=Int.ediv_nonneg hq0 (by omega)
   have hd1:q / sc.atoms.sum≤q:=Int.ediv_le_self _ hq0
   rw [Int.tdiv_eq_ediv_of_nonneg hq0,w64_id (by omega) (by omega)] at hy12
   subst hy12
   rw [w64_id (by omega) (by omega)]
   refine ⟨⟨m,rfl,by omega,hd0,?_,?_⟩,?_⟩
   ·rw [Int.pow_succ] at hq1
    exact Int.ediv_lt_of_lt_mul (by omega) hq1
   ·rw [← hiff,hT]
    exact ⟨fun h=>⟨hfits,h⟩,fun h=>h.2⟩
   ·show (_:Int).toNat < (_:Int).toNat
    omega
 ·obtain rfl:m = 0:=by omega
  simp only [List.take_zero,List.reverse_nil,typedR,Int.pow_zero] at hiff hq1
  exact hiff.1 (by omega)
theorem e81 (sc:Scope) (h:ScA sc.atoms) (hn1:1≤sc.atoms.sum) (sorts:List Int) (hs:∀ s ∈ sorts,0≤s∧s < sc.atoms.length) (hl3:sorts.length≤3) (r:Rel) (hl:r.tuples.length≤LIM) (ht:∀ t ∈ r.tuples,0≤t∧t < sc.atoms.sum ^ sorts.length) :
  Ev (fun b=>b = true↔∀ t ∈ r.tuples,Typed sc sorts t) (fun F=>m81 F sc sorts r):=by
 simp only [LIM] at hl
 unfold m81
 refine Ev.bind (e48 sc h) (fun y1 hy1=>?_)
 subst hy1
 refine Ev.bindS (fun (_:Unit)=>∀ t ∈ r.tuples,Typed sc sorts t) (fun b=>b = false∧¬ ∀ t ∈ r.tuples,Typed sc sorts t) ?_ (fun _ hx=>Ev.pure ⟨fun _=>hx,fun _=>rfl⟩) (fun b hb=>Ev.pure ⟨fun h=>(by rw [hb.1] at h; cases h),fun h=>(hb.2 h).elim⟩)
 refine Ev.each (n:=r.tuples.length) (by omega) (fun i=>∀ j,j < i→∀ t,r.tuples[j]? = some t→Typed sc sorts t) (fun j hj=>by omega) (fun i hi hA=>?_) allOf
 obtain ⟨t,hti⟩:=getE hi
 have hm:=List.mem_of_getElem? hti
 refine Ev.ixb hti ?_
 refine Ev.bindS _ _ (e81in sc h hn1 sorts hs hl3 t (ht t hm).1 (ht t hm).2) (fun _ hty=>Ev.pure ⟨rfl,stepA hA hti hty⟩) (fun b hb=>Ev.pure ⟨hb.1,fun hall=>hb.2 (hall t hm)⟩)
theorem e155i (a b:Rel) (ha:a.tuples.length≤LIM) (hb:b.tuples.length≤LIM):Ev (fun r=>(r.tuples.length = 0→∀ t ∈ a.tuples,t ∈ b.tuples)∧(SortedL b.tuples→(∀ t ∈ a.tuples,t ∈ b.tuples)→r.tuples.length = 0)) (fun F=>m155 F a b):=by
 simp only [LIM] at ha
 unfold m155
 refine Ev.bindS (fun l=>(l.length = 0→∀ t ∈ a.tuples,t ∈ b.tuples)∧(SortedL b.tuples→(∀ t ∈ a.tuples,t ∈ b.tuples)→l.length = 0)) (fun _=>False) ?_ (fun x hx=>Ev.pure hx) (fun _ h=>h.elim)
 refine Ev.loop (T:=List Int) a.tuples.length (fun i t=>((i:Int),t)) (fun i t=>t.length≤i∧(t.length = 0→∀ j,j < i→∀ x,a.tuples[j]? = some x→x ∈ b.tuples)∧(SortedL b.tuples→(∀ t ∈ a.tuples,t ∈ b.tuples)→t.length = 0)) rfl ⟨Nat.le_refl _,fun _ j hj=>by omega,fun _ _=>rfl⟩ (fun i t hi ht=>Ev.dt (Int.ofNat_lt.2 hi) ?_) (fun t ht=>Ev.df (Int.lt_irrefl _) (Ev.pure ⟨fun h=>allOf (ht.2.1 h),ht.2.2⟩))
 obtain ⟨y,hy⟩:=getE hi
 refine Ev.ixb hy (Ev.bind (e70 b hb y) (fun h hh=>?_))
 refine Ev.ite (fun hf=>Ev.ixb hy (Ev.bind (Ev.app (show t.length + 1 < _ by omega)) (fun u hu=>Ev.pure ⟨u,by rw [w64_succ (by omega)],?_⟩))) (fun ht2=>Ev.pure ⟨t,by rw [w64_succ (by omega)],by omega,fun h0=>stepA (ht.2.1 h0) hy (hh.1 (bnot_t ht2)),ht.2.2⟩)
 rw [hu]
 refine ⟨by simp; omega,fun h0=>by simp at h0,fun h1 h2=>?_⟩
 have:=hh.2 h1 (h2 y (List.mem_of_getElem? hy))
 rw [this] at hf; cases hf
theorem e101i (a b:Rel) (ha:a.tuples.length≤LIM) (hb:b.tuples.length≤LIM):Ev (fun r=>(r = true→∀ t ∈ a.tuples,t ∈ b.tuples)∧(SortedL b.tuples→(∀ t ∈ a.tuples,t ∈ b.tuples)→r = true)) (fun F=>m101 F a b):=by
 unfold m101
 refine Ev.bind (e155i a b ha hb) (fun y hy=>Ev.pure ⟨fun h=>hy.1 ?_,fun h1 h2=>?_⟩)
 ·simp at h
  rw [h]; rfl
 ·have:=hy.2 h1 h2
  simp at this
  simp [this]
end Go.AL
namespace Go.AL
open Go
set_option maxRecDepth 4000
theorem stepI {α:Type} {l:List α} {p:Nat→α→Prop} {i:Nat} {y:α} (hA:∀ j,j < i→∀ k,l[j]? = some k→p j k) (hy:l[i]? = some y) (hp:p i y):∀ j,j < i + 1→∀ k,l[j]? = some k→p j k:=fun j hj k hk=>by
 by_cases hji:j = i
 ·subst hji; rw [hy] at hk; cases hk; exact hp
 ·exact hA j (by omega) k hk
structure ScOk (sp:Spec) (sc:Scope):Prop where
 len:sc.atoms.length = sp.sorts.length
 sca:ScA sc.atoms
 steps:1≤sc.steps∧sc.steps≤4
 sum:sc.atoms.sum≤12
theorem e47i (sp:Spec) (sc:Scope) (hs:sp.sorts.length≤LIM) (hsc:sc.atoms.length≤LIM):Ev (fun r=>r = true↔ScOk sp sc) (fun F=>m47 F sp sc):=by
 simp only [LIM] at hs hsc
 unfold m47
 refine Ev.bind (P:=fun p=>p = false↔sc.atoms.length = sp.sorts.length∧sp.sorts.length≤4∧1≤sc.steps∧sc.steps≤4) ?_ (fun p hp=>?_)
 ·refine Ev.ite (fun h1=>Ev.pure ⟨fun h=>(by cases h),fun h=>?_⟩) (fun h1=>Ev.dec (fun h2=>Ev.pure ⟨fun h=>(by cases h),fun h=>by omega⟩) (fun h2=>Ev.dec (fun h3=>Ev.pure ⟨fun h=>(by cases h),fun h=>by omega⟩) (fun h3=>Ev.pure ⟨fun h4=>?_,fun h=>decide_eq_false (by omega)⟩)))
  ·rw [h.1] at h1; simp at h1
  ·have:=of_decide_eq_false h4
   simp at h1
   omega
 refine Ev.ite (fun h1=>Ev.pure ⟨fun h=>(by cases h),fun h=>?_⟩) (fun hpf=>?_)
 ·have:=h.sca.1
  have e:=h.len
  have:=hp.2 ⟨h.len,by omega,h.steps⟩
  rw [h1] at this; cases this
 obtain ⟨c1,c2,c3,c4⟩:=hp.1 hpf
 refine Ev.bindS (fun (_:Unit)=>∀ a ∈ sc.atoms,1≤a∧a≤5) (fun r=>r = false∧¬ ScOk sp sc) ?_ (fun _ hx=>?_) (fun r hr=>Ev.pure ⟨fun h=>(by rw [hr.1] at h; cases h),fun h=>(hr.2 h).elim⟩)
 ·refine Ev.each (n:=sc.atoms.length) (by omega) (fun i=>∀ j,j < i→∀ a,sc.atoms[j]? = some a→1≤a∧a≤5) (fun j hj=>by omega) (fun i hi hA=>?_) allOf
  obtain ⟨a,ha⟩:=getE hi
  refine Ev.bind (P:=fun p=>p = false↔1≤a∧a≤5) ?_ (fun p hp=>?_)
  ·refine Ev.ixb ha (Ev.dec (fun _=>Ev.pure ⟨fun h=>(by cases h),fun h=>by omega⟩) (fun h1=>Ev.ixb ha (Ev.pure ⟨fun h2=>?_,fun h2=>decide_eq_false (by omega)⟩)))
   have:=of_decide_eq_false h2
   omega
  refine Ev.ite (fun h1=>Ev.pure ⟨rfl,fun h=>?_⟩) (fun hpf=>Ev.pure ⟨rfl,stepA hA ha (hp.1 hpf)⟩)
  have:=hp.2 (h.sca.2 a (List.mem_of_getElem? ha))
  rw [h1] at this; cases this
 have hA:ScA sc.atoms:=⟨by omega,hx⟩
 refine Ev.bind (e48 sc hA) (fun y hy=>Ev.pure ⟨fun h=>⟨c1,hA,⟨c3,c4⟩,by rw [← hy]; exact of_decide_eq_true h⟩,fun h=>decide_eq_true ?_⟩)
 rw [hy]; exact h.sum
def TupAt (n:Int) (r:Rel) (j:Nat) (t:Int):Prop:=(0≤t∧t < n ^ r.arity.toNat)∧∀ u,0 < j→r.tuples[j - 1]? = some u→u < t
theorem RelOk.tupAt {n:Int} {r:Rel} (h:RelOk n r) {j:Nat} {t:Int} (ht:r.tuples[j]? = some t):TupAt n r j t:=
 ⟨h.rng t (List.mem_of_getElem? ht),fun u hj hu=>h.sorted (j - 1) j u t (by omega) hu ht⟩
theorem e80i (n:Int) (r:Rel) (hl:r.tuples.length≤LIM):Ev (fun b=>b = true↔RelOk n r) (fun F=>m80 F n r):=by
 simp only [LIM] at hl
 unfold m80
 refine Ev.bind (P:=fun p=>p = false↔0≤n∧n≤12∧1≤r.arity∧r.arity≤3) ?_ (fun p hp=>?_)
 ·refine Ev.dec (fun _=>Ev.pure ⟨fun h=>(by cases h),fun h=>by omega⟩) (fun h1=>Ev.dec (fun _=>Ev.pure ⟨fun h=>(by cases h),fun h=>by omega⟩) (fun h2=>Ev.dec (fun _=>Ev.pure ⟨fun h=>(by cases h),fun h=>by omega⟩) (fun h3=>Ev.pure ⟨fun h4=>?_,fun h4=>decide_eq_false (by omega)⟩)))
  have:=of_decide_eq_false h4
  omega
 refine Ev.ite (fun h1=>Ev.pure ⟨fun h=>(by cases h),fun h=>?_⟩) (fun hpf=>?_)
 ·have:=hp.2 ⟨h.n0,h.n1,h.a0,h.a1⟩
  rw [h1] at this; cases this
 obtain ⟨c1,c2,c3,c4⟩:=hp.1 hpf
 refine Ev.bindS (fun (_:Unit)=>∀ j,j < r.tuples.length→∀ t,r.tuples[j]? = some t→TupAt n r j t) (fun b=>b = false∧¬ RelOk n r) ?_ (fun _ hd=>Ev.pure ⟨fun _=>⟨c1,c2,c3,c4,allOf fun j hj t ht=>(hd j hj t ht).1,sorted_adj fun j x y hx hy=>?_⟩,fun _=>rfl⟩) (fun r hr=>Ev.pure ⟨fun h=>(by rw [hr.1] at h; cases h),fun h=>(hr.2 h).elim⟩)
 ·refine Ev.each (n:=r.tuples.length) (by omega) (fun i=>∀ j,j < i→∀ t,r.tuples[j]? = some t→TupAt n r j t) (fun j hj=>by omega) (fun i hi hA=>?_) (fun h=>h)
  obtain ⟨t,ht⟩:=getE hi
  refine Ev.bind (P:=fun p=>p = false↔TupAt n r i t) ?_ (fun p hp=>?_)
  ·refine Ev.ixb ht (Ev.dec (fun h0=>Ev.pure ⟨fun h=>(by cases h),fun h=>(by have:=h.1; omega)⟩) (fun h1=>Ev.ixb ht ?_))
   have ea:r.arity = (r.arity.toNat:Int):=by omega
   rw [ea]
   refine Ev.bind (e126 n c1 (by omega) r.arity.toNat (by omega)) (fun y hy=>?_)
   refine Ev.dec (fun h2=>Ev.pure ⟨fun h=>(by cases h),fun h=>(by have:=h.1; omega)⟩) (fun h2=>?_)
   refine Ev.dec (fun h3=>Ev.ixb ht ?_) (fun h3=>Ev.pure ⟨fun _=>⟨⟨by omega,by omega⟩,fun u h0=>absurd (show (0:Int) < i by omega) h3⟩,fun _=>rfl⟩)
   rw [w64_id (by omega) (by omega),show (i:Int) - 1 = ((i - 1:Nat):Int) by omega]
   obtain ⟨v,hv⟩:=getE (show i - 1 < r.tuples.length by omega)
   refine Ev.ixb hv (Ev.pure ⟨fun h4=>⟨⟨by omega,by omega⟩,fun u _ hu=>?_⟩,fun h4=>decide_eq_false ?_⟩)
   ·have:=of_decide_eq_false h4
    rw [hv] at hu; cases hu
    omega
   ·have:=h4.2 v (by omega) hv
    omega
  ·refine Ev.ite (fun h1=>Ev.pure ⟨rfl,fun h=>?_⟩) (fun hpf=>Ev.pure ⟨rfl,stepI hA ht (hp.1 hpf)⟩)
   have:=hp.2 (h.tupAt ht)
   rw [h1] at this; cases this
 ·exact (hd (j + 1) (getLt hy) y hy).2 x (by omega) hx
structure RelAt (sc:Scope) (f:Field) (r:Rel):Prop where
 arity:r.arity = (f.sorts.length:Int)
 ok:RelOk sc.atoms.sum r
 typed:∀ t ∈ r.tuples,Typed sc f.sorts t
def StateGood (sp:Spec) (m:Model) (k:Nat) (f:Field) (st:List Rel):Prop:=
 st.length = sp.fields.length∧∃ r,st[k]? = some r∧RelAt m.scope f r∧(f.var = false→∃ st0,m.states[0]? = some st0∧st0[k]? = some r)
structure ModelOk (sp:Spec) (m:Model):Prop where
 sc:ScOk sp m.scope
 len:(m.states.length:Int) = m.scope.steps
 loop:0≤m.loop∧m.loop < m.scope.steps
 state:∀ st ∈ m.states,st.length = sp.fields.length
 rel:∀ (k:Nat) f,sp.fields[k]? = some f→∀ st ∈ m.states,StateGood sp m k f st
def FieldOk (sp:Spec) (f:Field):Prop:=1≤f.sorts.length∧f.sorts.length≤3∧∀ s ∈ f.sorts,0≤s∧s < sp.sorts.length
theorem e79 (sp:Spec) (f:Field) (h:FieldOk sp f):Ev (fun r=>r = true) (fun F=>m79 F sp f):=by
 obtain ⟨h1,h2,h3⟩:=h
 unfold m79
 refine Ev.bindS (fun (_:Unit)=>True) (fun _=>False) ?_ (fun _ _=>?_) (fun _ h=>h.elim)
 ·refine Ev.each (n:=f.sorts.length) (by omega) (fun _=>True) trivial (fun i hi _=>?_) (fun _=>trivial)
  obtain ⟨s,hs⟩:=getE hi
  have:=h3 s (List.mem_of_getElem? hs)
  refine Ev.bind (P:=fun p=>p = false) (Ev.ixb hs (Ev.df (by omega) (Ev.ixb hs (Ev.pure (decide_eq_false (by omega)))))) (fun p hp=>Ev.if hp (Ev.pure ⟨rfl,trivial⟩))
 ·exact Ev.bind (P:=fun p=>p = true) (Ev.dt (by omega) (Ev.pure (decide_eq_true (by omega)))) (fun p hp=>Ev.pure hp)
theorem sum_pos_of {sp:Spec} {sc:Scope} (h:ScOk sp sc) {f:Field} (hf:FieldOk sp f):1≤sc.atoms.sum:=by
 obtain ⟨s,hs⟩:=getE (show 0 < f.sorts.length by have:=hf.1; omega)
 have a:=hf.2.2 s (List.mem_of_getElem? hs)
 have b:=sum_ge h.sca
 have c:=h.len
 omega
theorem RelAt.rng {sc:Scope} {f:Field} {r:Rel} (ha:r.arity = (f.sorts.length:Int)) (h:RelOk sc.atoms.sum r):∀ t ∈ r.tuples,0≤t∧t < sc.atoms.sum ^ f.sorts.length:=fun t ht=>by
 have:=h.rng t ht
 rw [ha,Int.toNat_natCast] at this
 exact this
theorem e26 (sp:Spec) (hs:SpSm sp) (h:SpOk sp) (m:Model) (hm:MoSm m):Ev (fun r=>r = true↔ModelOk sp m) (fun F=>m26 F sp m):=by
 have q1:=hm.states
 have q2:=hs.fields
 simp only [LIM] at q1 q2
 unfold m26
 refine Ev.bind (P:=fun p=>p = false↔ScOk sp m.scope∧(m.states.length:Int) = m.scope.steps∧0≤m.loop∧m.loop < m.scope.steps) ?_ (fun p hp=>?_)
 ·refine Ev.bind (e47i sp m.scope hs.sorts hm.atoms) (fun y1 hy1=>?_)
  refine Ev.ite (fun h1=>Ev.pure ⟨fun h=>(by cases h),fun h2=>?_⟩) (fun h1=>?_)
  ·have:=hy1.2 h2.1
   rw [this] at h1; cases h1
  have hsc:=hy1.1 (bnot_t h1)
  refine Ev.ite (fun h2=>Ev.pure ⟨fun h=>(by cases h),fun h3=>?_⟩) (fun h2=>?_)
  ·rw [h3.2.1] at h2; simp at h2
  have hlen:(m.states.length:Int) = m.scope.steps:=by simpa using h2
  refine Ev.dec (fun h3=>Ev.pure ⟨fun h=>(by cases h),fun h4=>(by have:=h4.2.2; omega)⟩) (fun h3=>Ev.pure ⟨fun h4=>?_,fun h4=>decide_eq_false (by have:=h4.2.2; omega)⟩)
  have:=of_decide_eq_false h4
  exact ⟨hsc,hlen,by omega,by omega⟩
 refine Ev.ite (fun h1=>Ev.pure ⟨fun h=>(by cases h),fun hok=>?_⟩) (fun h1=>?_)
 ·have:=hp.2 ⟨hok.sc,hok.len,hok.loop⟩
  rw [h1] at this; cases this
 obtain ⟨hsc,hlen,hlp0,hlp1⟩:=hp.1 h1
 have hst1:=hsc.steps
 refine Ev.bind (e48 m.scope hsc.sca) (fun y4 hy4=>?_)
 subst hy4
 refine Ev.bindS (fun (_:Unit)=>∀ k,k < sp.fields.length→∀ f,sp.fields[k]? = some f→∀ st ∈ m.states,StateGood sp m k f st) (fun r=>r = false∧¬ ModelOk sp m) ?_ (fun _ hx=>?_) (fun r hr=>Ev.pure ⟨fun h=>(by rw [hr.1] at h; cases h),fun h=>(hr.2 h).elim⟩)
 ·refine Ev.each (n:=sp.fields.length) (by omega) (fun i=>∀ k,k < i→∀ f,sp.fields[k]? = some f→∀ st ∈ m.states,StateGood sp m k f st) (fun j hj=>by omega) (fun i hi hA=>?_) (fun h=>h)
  obtain ⟨f,hf⟩:=getE hi
  have hfo:FieldOk sp f:=h.fsorts f (List.mem_of_getElem? hf)
  have hn1:=sum_pos_of hsc hfo
  refine Ev.ixb hf (Ev.bind (e79 sp f hfo) (fun y9 hy9=>?_))
  subst hy9
  refine Ev.if (c:=!true) rfl ?_
  refine Ev.bindS (fun (_:Unit)=>∀ st ∈ m.states,StateGood sp m i f st) (fun r=>r = false∧¬ ModelOk sp m) ?_ (fun _ hx=>Ev.pure ⟨rfl,stepI hA hf hx⟩) (fun r hr=>Ev.pure hr)
  refine Ev.each (n:=m.states.length) (by omega) (fun j=>∀ j',j' < j→∀ st,m.states[j']? = some st→StateGood sp m i f st) (fun j hj=>by omega) (fun j hj hB=>?_) allOf
  obtain ⟨st,hst⟩:=getE hj
  have hstm:=List.mem_of_getElem? hst
  refine Ev.ixb hst (Ev.ite (fun hne=>Ev.pure ⟨rfl,fun hok=>?_⟩) (fun heq=>?_))
  ·have:=hok.state st hstm
   rw [this] at hne; simp at hne
  have hsl:st.length = sp.fields.length:=by simp at heq; omega
  obtain ⟨r,hr⟩:=getE (show i < st.length by omega)
  have hrl:=hm.rels st hstm r (List.mem_of_getElem? hr)
  obtain ⟨st0,hst0⟩:=getE (show 0 < m.states.length by omega)
  have hs0l:st0.length = sp.fields.length:=by
   by_cases e:j = 0
   ·subst e; rw [hst] at hst0; cases hst0; exact hsl
   ·exact (hB 0 (by omega) st0 hst0).1
  refine Ev.ixb hst (Ev.ixb hr (Ev.bind (P:=fun p=>p = false↔RelAt m.scope f r∧(f.var = false→∃ st0,m.states[0]? = some st0∧st0[i]? = some r)) ?_ (fun p hp=>?_)))
  ·refine Ev.ite (fun h1=>Ev.pure ⟨fun h=>(by cases h),fun h2=>?_⟩) (fun h1=>?_)
   ·rw [h2.1.arity] at h1; simp at h1
   have har:r.arity = (f.sorts.length:Int):=by simpa using h1
   refine Ev.bind (e80i _ r hrl) (fun y16 hy16=>Ev.ite (fun h2=>Ev.pure ⟨fun h=>(by cases h),fun h3=>?_⟩) (fun h2=>?_))
   ·have:=hy16.2 h3.1.ok
    rw [this] at h2; cases h2
   have hok:=hy16.1 (bnot_t h2)
   refine Ev.bind (e81 m.scope hsc.sca hn1 f.sorts (fun s hs=>by have:=hfo.2.2 s hs; have:=hsc.len; omega) hfo.2.1 r hrl (RelAt.rng har hok)) (fun y17 hy17=>Ev.ite (fun h3=>Ev.pure ⟨fun h=>(by cases h),fun h4=>?_⟩) (fun h3=>?_))
   ·have:=hy17.2 h4.1.typed
    rw [this] at h3; cases h3
   have hra:RelAt m.scope f r:=⟨har,hok,hy17.1 (bnot_t h3)⟩
   refine Ev.ite (fun h4=>?_) (fun h4=>Ev.pure ⟨fun _=>⟨hra,fun h5=>by rw [bnot_t h4] at h5; cases h5⟩,fun _=>rfl⟩)
   obtain ⟨r0,hr0⟩:=getE (show i < st0.length by omega)
   refine Ev.ixb (i:=0) hst0 (Ev.ixb hr0 (Ev.bind (e38 r r0 hrl) (fun y20 hy20=>Ev.pure ⟨fun h5=>⟨hra,fun _=>⟨st0,hst0,?_⟩⟩,fun h5=>?_⟩)))
   ·rw [hy20.1 (bnot_t h5)]; exact hr0
   ·obtain ⟨st0',g1,g2⟩:=h5.2 (bnot_f h4)
    rw [hst0] at g1; cases g1
    rw [hr0] at g2; cases g2
    rw [hy20.2 rfl]; rfl
  ·refine Ev.ite (fun h1=>Ev.pure ⟨rfl,fun hok=>?_⟩) (fun h1=>Ev.pure ⟨rfl,stepA hB hst ⟨hsl,r,hr,hp.1 h1⟩⟩)
   obtain ⟨_,r',g1,g2⟩:=hok.rel i f hf st hstm
   rw [hr] at g1; cases g1
   rw [hp.2 g2] at h1; cases h1
 ·refine Ev.bindS (fun (_:Unit)=>∀ st ∈ m.states,st.length = sp.fields.length) (fun r=>r = false∧¬ ModelOk sp m) ?_ (fun _ hy=>Ev.pure ⟨fun _=>⟨hsc,hlen,⟨hlp0,hlp1⟩,hy,fun k f hf=>hx k (getLt hf) f hf⟩,fun _=>rfl⟩) (fun r hr=>Ev.pure ⟨fun h=>(by rw [hr.1] at h; cases h),fun h=>(hr.2 h).elim⟩)
  refine Ev.each (n:=m.states.length) (by omega) (fun j=>∀ j',j' < j→∀ st,m.states[j']? = some st→st.length = sp.fields.length) (fun j hj=>by omega) (fun j hj hB=>?_) allOf
  obtain ⟨st,hst⟩:=getE hj
  refine Ev.ixb hst (Ev.ite (fun hne=>Ev.pure ⟨rfl,fun hok=>?_⟩) (fun heq=>Ev.pure ⟨rfl,stepA hB hst ?_⟩))
  ·have:=hok.state st (List.mem_of_getElem? hst)
   rw [this] at hne; simp at hne
  ·simp at heq; omega
structure WithinB (x:Bound) (r:Rel):Prop where
 la:x.lower.arity = r.arity
 ua:x.upper.arity = r.arity
 lower:∀ t ∈ x.lower.tuples,t ∈ r.tuples
 upper:∀ t ∈ r.tuples,t ∈ x.upper.tuples
def ContB (b:List Bound) (m:Model):Prop:=∀ st ∈ m.states,st.length = b.length∧∀ (k:Nat) x r,b[k]? = some x→st[k]? = some r→WithinB x r
theorem e82 (x:Bound) (r:Rel) (hl:x.lower.tuples.length≤LIM) (hu:x.upper.tuples.length≤LIM) (hr:r.tuples.length≤LIM) :
  Ev (fun b=>(b = true→WithinB x r)∧(SortedL r.tuples→SortedL x.upper.tuples→WithinB x r→b = true)) (fun F=>m82 F x r):=by
 unfold m82
 refine Ev.bind (P:=fun b=>(b = true→WithinB x r)∧(SortedL r.tuples→SortedL x.upper.tuples→WithinB x r→b = true)) ?_ (fun b hb=>Ev.pure hb)
 refine Ev.ite (fun h1=>Ev.ite (fun h2=>?_) (fun h2=>Ev.pure ⟨fun h=>(by cases h),fun _ _ h=>?_⟩)) (fun h1=>Ev.pure ⟨fun h=>(by cases h),fun _ _ h=>?_⟩)
 ·have h1:x.lower.arity = r.arity:=by simpa using h1
  have h2:x.upper.arity = r.arity:=by simpa using h2
  refine Ev.bind (e101i x.lower r hl hr) (fun y1 hy1=>Ev.ite (fun h3=>?_) (fun h3=>Ev.pure ⟨fun h=>(by cases h),fun hs _ h=>?_⟩))
  ·refine Ev.bind (e101i r x.upper hr hu) (fun y2 hy2=>Ev.pure ⟨fun h4=>⟨h1,h2,hy1.1 h3,hy2.1 h4⟩,fun _ hs h=>hy2.2 hs h.upper⟩)
  ·rw [hy1.2 hs h.lower] at h3; cases h3
 ·rw [h.ua] at h2; simp at h2
 ·rw [h.la] at h1; simp at h1
theorem e27 (b:List Bound) (m:Model) (hb:BdSm b) (hm:MoSm m) :
  Ev (fun r=>(r = true→ContB b m)∧((∀ st ∈ m.states,∀ r ∈ st,SortedL r.tuples)→(∀ x ∈ b,SortedL x.upper.tuples)→ContB b m→r = true)) (fun F=>m27 F b m):=by
 have q1:=hm.states
 have q2:=hb.1
 simp only [LIM] at q1 q2
 unfold m27
 refine Ev.bindS (fun (_:Unit)=>ContB b m) (fun r=>r = false∧((∀ st ∈ m.states,∀ r ∈ st,SortedL r.tuples)→(∀ x ∈ b,SortedL x.upper.tuples)→¬ ContB b m)) ?_ (fun _ hx=>Ev.pure ⟨fun _=>hx,fun _ _ _=>rfl⟩) (fun r hr=>Ev.pure ⟨fun h=>(by rw [hr.1] at h; cases h),fun h1 h2 h3=>(hr.2 h1 h2 h3).elim⟩)
 refine Ev.each (n:=m.states.length) (by omega) (fun i=>∀ j,j < i→∀ st,m.states[j]? = some st→st.length = b.length∧∀ (k:Nat) x r,b[k]? = some x→st[k]? = some r→WithinB x r) (fun j hj=>by omega) (fun i hi hA=>?_) allOf
 obtain ⟨st,hst⟩:=getE hi
 have hstm:=List.mem_of_getElem? hst
 refine Ev.ixb hst (Ev.ite (fun hne=>Ev.pure ⟨rfl,fun _ _ hc=>?_⟩) (fun heq=>?_))
 ·rw [(hc st hstm).1] at hne; simp at hne
 have hl:st.length = b.length:=by simp at heq; omega
 refine Ev.bindS (fun (_:Unit)=>∀ k,k < b.length→∀ x,b[k]? = some x→∀ r,st[k]? = some r→WithinB x r) (fun r=>r = false∧((∀ st ∈ m.states,∀ r ∈ st,SortedL r.tuples)→(∀ x ∈ b,SortedL x.upper.tuples)→¬ ContB b m)) ?_ (fun _ hx=>Ev.pure ⟨rfl,stepA hA hst ⟨hl,fun k x r h1 h2=>hx k (getLt h1) x h1 r h2⟩⟩) (fun r hr=>Ev.pure hr)
 refine Ev.each (n:=b.length) (by omega) (fun j=>∀ k,k < j→∀ x,b[k]? = some x→∀ r,st[k]? = some r→WithinB x r) (fun j hj=>by omega) (fun k hk hB=>?_) (fun h=>h)
 obtain ⟨x,hx⟩:=getE hk
 obtain ⟨r,hr⟩:=getE (show k < st.length by omega)
 have hxm:=List.mem_of_getElem? hx
 have hrm:=List.mem_of_getElem? hr
 refine Ev.ixb hx (Ev.ixb hst (Ev.ixb hr (Ev.bind (e82 x r (hb.2 x hxm).1 (hb.2 x hxm).2 (hm.rels st hstm r hrm)) (fun y hy=>Ev.ite (fun h1=>Ev.pure ⟨rfl,fun g1 g2 hc=>?_⟩) (fun h1=>Ev.pure ⟨rfl,stepI (p:=fun k x=>∀ r,st[k]? = some r→WithinB x r) hB hx (fun r' hr'=>?_)⟩)))))
 ·have:=hy.2 (g1 st hstm r hrm) (g2 x hxm) ((hc st hstm).2 k x r hx hr)
  rw [this] at h1; cases h1
 ·rw [hr] at hr'; cases hr'
  exact hy.1 (bnot_t h1)
end Go.AL
namespace Go.AL
open Go Go.Proofs
set_option maxRecDepth 10000
set_option maxHeartbeats 4000000
def m226 {W:Type} (F:Nat) (x:Bound) (step:W→Int→Option W) (w0:W):Option W:=
 (runs (fun (s:Int×W)=>
 (bif decide (s.1 < (x.upper.tuples.length:Int)) then
 (idx x.upper.tuples s.1).bind fun t=>
 (m69 F x.lower.tuples t).bind fun r=>
 (bif (!r.2) then step s.2 t else some s.2).bind fun w=>
 some (Out.next (w64 (s.1 + 1),w))
 else
 some (Out.exit s.2):Option (Out (Int×W) W Unit))) F (0,w0)).bind fun (o:W ⊕ Unit)=>(match o with
 | .inl w=>some w
 | .inr _=>none)
theorem c226 {W:Type} (F:Nat) (x:Bound) (step:W→Int→Option W) (w0 res:W) (hm:m226 F x step w0 = some res) {l:Nat} {T:W→List ABlk} {S:Nat→Bool} (hy:YOk Tryz.prog l (AV.int .i64) T step 0 S) (J:List ABlk) (hJ:AllD J) :
  ACall Tryz.prog 226 [.yield l,.rptr x.av] (T w0 ++ J) (.ret (.tup [])) (T res ++ J):=by
 unfold m226 at hm
 refine ACall.done Tryz.func226 rfl rfl (nlst rfl) ?_
 show SX _ _ _ 32 _ _ _ _
 refine SX.seq (SX.rn 3 rfl (SOps.light rfl rfl (lightV_len (f:=(AV.int .i64)) (xs:=x.upper.tuples) rfl rfl Tryz.underlying28 rfl) rdNone (SOps.re rfl ?_)))
 obtain ⟨o,ho,hm⟩:=bindE hm
 refine SX.forget (al':=[(0,.yield l),(1,.rptr x.av),(9,.vw 1 (x.upper.tuples.map (AV.int .i64))),(10,.int .i64 x.upper.tuples.length),(11,.int .i64 0)]) (leA_of rfl) ?_
 refine SX.iter (fun (s:Int×W) (_:Unit)=>[(0,.yield l),(1,.rptr x.av),(9,.vw 1 (x.upper.tuples.map (AV.int .i64))),(10,.int .i64 x.upper.tuples.length),(11,.int .i64 s.1)]) (fun (s:Int×W) (_:Unit)=>T s.2 ++ J)
  (fun (_:W) (_:Unit)=>[]) (fun (w:W) (_:Unit)=>T w ++ J) (fun (_:Unit) _ _ _=>False) () ho rfl rfl ?_ ?_ ?_
 ·intro s g out hb
  refine SX.seq (SX.rr rfl (SX.seq ?_))
  refine SX.condM rfl rfl hb (fun ht hb=>?_) (fun ht hb=>?_)
  ·refine SX.sk (SX.seq (SX.block (SX.seq (SX.region ?_))))
   obtain ⟨t,hy4,hb⟩:=bindE hb
   refine SOps.light rfl rfl (lightV_idx (f:=(AV.int .i64)) (xs:=x.upper.tuples) rfl rfl Tryz.underlying28 rfl hy4) rdNone (SOps.re rfl (SX.seq (SX.rn 4 rfl ?_)))
   obtain ⟨r,hr,hb⟩:=bindE hb
   refine SOps.call rfl rfl rfl rfl rfl (c69 F x.lower.tuples t r hr _) rdNone (SOps.re rfl (SX.seq ?_))
   obtain ⟨w,hj,hb⟩:=bindE hb
   refine SX.join [(0,.yield l),(1,.rptr x.av),(9,.vw 1 (x.upper.tuples.map (AV.int .i64))),(10,.int .i64 x.upper.tuples.length),(11,.int .i64 s.1),(30,.bool false)] (T w ++ J) (SX.region ?_) ?_
   ·refine SOps.rn 2 rfl ?_
    refine SOps.splitM rfl rfl rfl rdNone hj (fun hj=>?_) (fun hj=>?_)
    ·refine SOps.rn 2 rfl (SOps.yield (own:=[]) (v:=t) hy rfl rfl rfl rfl rfl rfl rfl (fun _ h=>by cases h) hJ trivial hj (SOps.re rfl ?_))
     exact ⟨rfl,CutTo.sr rfl⟩
    ·refine SOps.re rfl ?_
     obtain rfl:=oj hj
     exact ⟨rfl,CutTo.sr rfl⟩
   refine SX.cond (t:=false) rfl rfl (fun ht=>by cases ht) (fun ht=>?_)
   refine SX.sk (SX.rr rfl ?_)
   exact eI _ (eI () (aI (ojs hb) (CutTo.sr rfl)))
  ·refine SX.ex ?_
   exact aI rfl (eI _ (eI () (aI (ojs hb) (CutTo.sr rfl))))
 ·intro w g he
  subst he
  obtain rfl:=oj hm
  exact ⟨.inl rfl,rfl,rfl⟩
 ·intro r al' df' h' hr hq
  exact hq.elim
end Go.AL
namespace Go.AL
open Go Go.Proofs
set_option maxRecDepth 10000
set_option maxHeartbeats 4000000
theorem c159 (x:Bound) (h:List ABlk):ACall Tryz.prog 159 [x.av] h (.ret (.func (.func 226) [] [.rptr x.av])) h:=by
 refine ACall.mir 0 Tryz.func159 rfl (.cons x.apart .nil) (nlst rfl) ?_ h
 show SX _ _ _ 4 _ _ _ _
 refine SX.seq (SX.rr rfl (SX.seq (SX.rr rfl (SX.rt ?_))))
 exact RetQ.mk (vs:=[.func (.func 226) [] [.ptr 0 0 0 0]]) rfl (.func .nil (.cons (.ptr rfl rfl (Nat.succ_ne_zero _) (.apart x.apart)) .nil))
def S3 (b:Nat):Bool:=Nat.ble 1 b && Nat.ble b 3
theorem S3_big (b:Nat) (h:4≤b):S3 b = false:=by
 have:Nat.ble b 3 = false:=by
  cases hb:Nat.ble b 3 with
  | false=>rfl
  | true=>have:=Nat.le_of_ble_eq_true hb; omega
 simp [S3,this]
def m104 (F:Nat) (b:List Bound):Option (List Pair):=
 (runs (fun (s:Int×List Pair)=>
 (bif decide (s.1 < (b.length:Int)) then
 (idx b s.1).bind fun x=>
 (m226 F x (fun out t=>app out [Pair.mk s.1 t]) s.2).bind fun out=>
 some (Out.next (w64 (s.1 + 1),out))
 else
 some (Out.exit s.2):Option (Out (Int×List Pair) (List Pair) Unit))) F (0,[])).bind fun (o:List Pair ⊕ Unit)=>(match o with
 | .inl x=>some x
 | .inr _=>none)
abbrev GM (n0:Nat):={ p:List ABlk×List ADef // AllD p.1∧Mk n0 p.2 p.1 }
theorem c104 (F:Nat) (b:List Bound) (res:List Pair) (hm:m104 F b = some res) (h:List ABlk):ACall Tryz.prog 104 [.vw 4 (b.map Bound.av)] h (.ret (.vw 2 (res.map Pair.av))) h:=by
 unfold m104 at hm
 refine ACall.mirD 4 Tryz.func104 rfl (.cons (.vw (ApartL.map fun x _=>x.apart)) .nil) (nlst rfl) ?_ h
 show SX _ _ _ 25 _ _ _ _
 refine SX.seq (SX.rr rfl (SX.seq (SX.rr rfl ?_)))
 refine SX.seq (SX.seq ?_)
 refine SX.rn 1 rfl (SOps.light rfl rfl (lightV_len (f:=Bound.av) (xs:=b) rfl rfl Tryz.underlying31 rfl) rdNone (SOps.re rfl ?_))
 obtain ⟨o,ho,hm⟩:=bindE hm
 refine SX.forget (al':=[(3,.ptr 4 0 0 0),(7,.vw 4 (b.map Bound.av)),(8,.int .i64 b.length),(9,.int .i64 0)]) (leA_of rfl) ?_
 refine SX.iterD (G:=GM 5) (fun (s:Int×List Pair) _=>[(3,.ptr 4 0 0 0),(7,.vw 4 (b.map Bound.av)),(8,.int .i64 b.length),(9,.int .i64 s.1)]) (fun g=>g.1.2)
  (fun (s:Int×List Pair) g=>[oblk 2 (s.2.length - 1) (s.2.map Pair.av),.resv,.resv,.resv,.row 0 1 [osl 0 (s.2.length - 1) (s.2.map Pair.av)]] ++ g.1.1)
  (fun (_:List Pair) _=>[(3,.ptr 4 0 0 0)]) (fun (x:List Pair) g=>[oblk 2 (x.length - 1) (x.map Pair.av),.resv,.resv,.resv,.row 0 1 [osl 0 (x.length - 1) (x.map Pair.av)]] ++ g.1.1) S3 ⟨([],[]),trivial,trivial⟩ ho rfl rfl rfl ?_ ?_ ?_
 ·intro s g n hn hlt
  have:n = 1 ∨ n = 2 ∨ n = 3:=by
   simp only [S3,Bool.and_eq_true] at hn
   have h1:=Nat.le_of_ble_eq_true hn.1
   have h2:=Nat.le_of_ble_eq_true hn.2
   omega
  rcases this with rfl | rfl | rfl <;> rfl
 ·rintro ⟨i,out⟩ ⟨⟨J,D⟩,hJ,hD⟩ ot hb
  refine SX.seq (SX.rr rfl (SX.seq ?_))
  refine SX.condM rfl rfl hb (fun ht hb=>?_) (fun ht hb=>?_)
  ·refine SX.sk (SX.seq (SX.block (SX.seq (SX.rn 1 rfl ?_))))
   obtain ⟨x,hx,hb⟩:=bindE hb
   refine SOps.light rfl rfl (lightV_idx (f:=Bound.av) (xs:=b) rfl rfl Tryz.underlying31 rfl hx) rdNone (SOps.rn 1 rfl (SOps.fill (v:=_) 1 rfl rfl rfl rdNone (SOps.fill (v:=_) 2 rfl rfl rfl rdNone (SOps.re rfl (SX.seq (SX.rn 1 rfl (SOps.call rfl rfl rfl rfl rfl (c159 x _) rdNone (SOps.nil rdNone ?_))))))))
   obtain ⟨out',ho',hb⟩:=bindE hb
   refine SX.block (SX.forget (al':=[(3,.ptr 4 0 0 0),(4,.ptr 1 0 0 0),(7,.vw 4 (b.map Bound.av)),(8,.int .i64 b.length),(9,.int .i64 i),(15,.func (.func 226) [] [.rptr x.av])]) (leA_of rfl) ?_)
   refine SX.rangeF 3 rfl rfl rfl rfl (c226 F x (fun out t=>app out [Pair.mk i t]) out out' ho' (l:=3)
    (T:=fun (out:List Pair)=>[oblk 2 (out.length - 1) (out.map Pair.av),.row 0 1 [.int .i64 i],.row 0 4 [x.av],.loop .ready none (lst 25 [(3,.ptr 4 0 0 0),(4,.ptr 1 0 0 0),(7,.vw 4 (b.map Bound.av)),(8,.int .i64 b.length),(9,.int .i64 i),(15,.func (.func 226) [] [.rptr x.av])]) #[16] _ _,.row 0 1 [osl 0 (out.length - 1) (out.map Pair.av)]])
    (S:=fun _=>false) ?_ (J ++ [ABlk.defr]) (hJ.append ⟨.inl rfl,trivial⟩)) rfl ?_
   ·refine ⟨fun u t u' hst own J rd o ρ df c g hown hav hJ hd ho hc hg ha=>?_⟩
    obtain rfl:=List.length_eq_zero_iff.1 hown
    refine AStep.yield ho hc hg ?_
    rw [ha]
    refine ARound.of_SX (N:=25) (t:=16) (al:=[(3,.ptr 4 0 0 0),(4,.ptr 1 0 0 0),(7,.vw 4 (b.map Bound.av)),(8,.int .i64 b.length),(9,.int .i64 i),(15,.func (.func 226) [] [.rptr x.av])]) (al1:=[(3,.ptr 4 0 0 0),(4,.ptr 1 0 0 0),(6,.int .i64 t)])
     (h1:=[oblk 2 (u.length - 1) (u.map Pair.av),.row 0 1 [.int .i64 i],.row 0 4 [x.av],.loop .ready none (lst 25 [(3,.ptr 4 0 0 0),(4,.ptr 1 0 0 0),(7,.vw 4 (b.map Bound.av)),(8,.int .i64 b.length),(9,.int .i64 i),(15,.func (.func 226) [] [.rptr x.av])]) #[16] _ _,.row 0 1 [osl 0 (u.length - 1) (u.map Pair.av)]] ++ J)
     (h2:=[oblk 2 (u'.length - 1) (u'.map Pair.av),.row 0 1 [.int .i64 i],.row 0 4 [x.av],.loop .busy none (lst 25 [(3,.ptr 4 0 0 0),(4,.ptr 1 0 0 0),(7,.vw 4 (b.map Bound.av)),(8,.int .i64 b.length),(9,.int .i64 i),(15,.func (.func 226) [] [.rptr x.av])]) #[16] _ _,.row 0 1 [osl 0 (u'.length - 1) (u'.map Pair.av)]] ++ J) (by decide) rfl ?_ rfl ?_ rfl
    ·refine SX.region (SOps.light (v:=_) rfl rfl rfl (rdS rfl) ?_)
     refine SOps.nil (rdS rfl) ⟨rfl,rfl,.cons rfl (leA_of rfl),rfl⟩
    ·refine SX.block (SX.region (SOps.light rfl rfl (lightV_load1 rfl rfl rfl rfl) (rdS rfl) ?_))
     iterate 3 refine SOps.light (v:=_) rfl rfl rfl (rdS rfl) ?_
     refine SOps.heavy (v:=_) rfl rfl rfl (rdS rfl) (SOps.grow1M (f:=Pair.av) (xs:=u) (y:=Pair.mk i t) (b:=0) rfl rfl rfl rfl rfl rfl rfl rfl rfl rfl rfl hst (rdS rfl) (SOps.heavy (v:=.poison) rfl rfl (heavyV_store1 rfl rfl rfl rfl) (rdS rfl) ?_))
     refine SOps.nil (rdS rfl) ⟨rfl,rfl,rfl⟩
   ·refine SX.rr rfl ?_
    refine eI _ (eI ⟨(J ++ [ABlk.defr],_),hJ.append ⟨.inl rfl,trivial⟩,Mk.push hD ?_⟩ (aI (ojs hb) ⟨rfl,.cons rfl (leA_of rfl),.inr ⟨Unfilled.pool (l:=[oblk 2 (out'.length - 1) (out'.map Pair.av),.row 0 1 [.int .i64 i],.row 0 4 [x.av],.loop .exhausted none _ #[16] _ _,.row 0 1 [osl 0 (out'.length - 1) (out'.map Pair.av)]])
     (aI (avoid_oblk (avoidL_map (Pair.avoid _))) (aI trivial (aI trivial (aI trivial (aI (aI (avoid_osl rfl) trivial) trivial))))) (hJ.append ⟨.inl rfl,trivial⟩) (fun n hn=>S3_big n (by simp at hn; omega)),?_,?_⟩⟩))
    ·simp; omega
    ·exact aI rfl (aI (avoidL_map (Bound.avoid _)) (aI trivial (aI trivial trivial)))
    ·exact Mk.avoid (fun n hn=>S3_big n (by omega)) (Mk.push hD (by simp; omega))
  ·refine SX.ex ?_
   exact aI rfl (eI _ (eI ⟨(J,D),hJ,hD⟩ (aI (ojs hb) ⟨rfl,.cons rfl .nil,.inl rfl⟩)))
 ·rintro x ⟨⟨J,D⟩,hJ,hD⟩ he
  subst he
  obtain rfl:=oj hm
  refine SX.seq (SX.region (SOps.light rfl rfl (lightV_load1 rfl rfl rfl rfl) rdNone (SOps.re rfl (SX.rt ?_))))
  exact ⟨rfl,_,J,[osl 0 (x.length - 1) (x.map Pair.av)],rfl,hD,fun K hK=>rfl,fun K hK=>frozen_osl rfl (ApartL.map fun y _=>y.apart)⟩
end Go.AL
namespace Go.AL
open Go Go.Proofs
set_option maxRecDepth 10000
set_option maxHeartbeats 4000000
theorem c75 (F:Nat) (l:Layout) (h:List ABlk):ACall Tryz.prog 75 [AV.rptr (l.av)] h (.ret (AV.int .i64 (bif decide (1 < l.scope.steps) then l.scope.steps else 0))) h:=by
 refine ACall.mir 0 Tryz.func75 rfl (.cons (.rptr (Layout.apart _)) .nil) (nlst rfl) ?_ h
 show SX _ _ _ 14 _ _ _ _
 refine SX.seq (SX.rr rfl ?_)
 refine SX.seq (SX.seq ?_)
 refine SX.rr rfl ?_
 refine SX.condM (A:=l.scope.steps) (B:=0) rfl rfl rfl (fun ht hm=>?_) (fun ht hm=>?_)
 ·refine SX.seq (SX.rr rfl (SX.rt ?_))
  rw [← hm]
  exact RetQ.mk (vs:=[AV.int .i64 l.scope.steps]) rfl (.apart .int)
 ·refine SX.sk (SX.seq (SX.rr rfl (SX.rt ?_)))
  rw [← hm]
  exact RetQ.mk (vs:=[AV.int .i64 0]) rfl (.apart .int)
def S0 (b:Nat):Bool:=Nat.beq b 0
theorem S0_succ (b:Nat) (h:1≤b):S0 b = false:=by
 cases b with
 | zero=>omega
 | succ b=>rfl
theorem Unfilled.front {x:ABlk} {Tw J:List ABlk} (hT:∀ b ∈ Tw,avoidB S0 b) (hJ:AllD J):Unfilled S0 ([x] ++ (Tw ++ J)) ([ABlk.resv] ++ (Tw ++ J)):=by
 refine ⟨by simp,fun b hb _=>?_,fun b hb=>?_,fun b y hb hy=>?_⟩
 ·have:b = 0:=Nat.eq_of_beq_eq_true hb
  subst this; rfl
 ·cases b with
  | zero=>cases hb
  | succ b=>rfl
 ·cases b with
  | zero=>cases hb
  | succ b=>
   have hy':(Tw ++ J)[b]? = some y:=by simpa using hy
   rcases Nat.lt_or_ge b Tw.length with h | h
   ·rw [List.getElem?_append_left h] at hy'
    exact hT y (List.mem_of_getElem? hy')
   ·rw [List.getElem?_append_right h] at hy'
    exact avoid_dead (hJ.get hy')
def m68i {W:Type} (F:Nat) (l:Layout) (step:W→Entry→Option W) (i v0:Int) (w0:W):Option (Int×W):=
 (runs (fun (s:Int×Int×W)=>
 (bif decide (s.1 < (l.free.length:Int)) then
 (idx l.free s.1).bind fun p=>
 (bif decide (0 < i) then
 (idx l.sp.fields p.fst).bind fun f=>
 some (!f.var)
 else
 some false).bind fun skip=>
 bif skip then
 some (Out.next (w64 (s.1 + 1),s.2.1,s.2.2))
 else
 (step s.2.2 (Entry.mk (w64 (s.2.1 + 1)) i p.fst p.snd)).bind fun w=>
 some (Out.next (w64 (s.1 + 1),w64 (s.2.1 + 1),w))
 else
 some (Out.exit (s.2.1,s.2.2)):Option (Out (Int×Int×W) (Int×W) Unit))) F (0,v0,w0)).bind fun (o:(Int×W) ⊕ Unit)=>(match o with
 | .inl x=>some x
 | .inr _=>none)
def m68 {W:Type} (F:Nat) (l:Layout) (step:W→Entry→Option W) (w0:W):Option W:=
 (runs (fun (s:Int×Int×W)=>
 (bif decide (s.1 < l.scope.steps) then
 (m68i F l step s.1 s.2.1 s.2.2).bind fun r=>
 some (Out.next (w64 (s.1 + 1),r.1,r.2))
 else
 some (Out.exit s.2.2):Option (Out (Int×Int×W) W Unit))) F (0,(bif decide (1 < l.scope.steps) then l.scope.steps else 0),w0)).bind fun (o:W ⊕ Unit)=>(match o with
 | .inl x=>some x
 | .inr _=>none)
theorem c68 {W:Type} (F:Nat) (l:Layout) (step:W→Entry→Option W) (w0 res:W) (hm:m68 F l step w0 = some res) {lb:Nat} {T:W→List ABlk} {S:Nat→Bool} (hy:YOk Tryz.prog lb Entry.av T step 1 S) (hT:∀ w,∀ b ∈ T w,avoidB S0 b) (J:List ABlk) (hJ:AllD J) (hlb:S0 lb = false) :
  ACall Tryz.prog 68 [.rptr l.av,.yield lb] ([ABlk.resv] ++ (T w0 ++ J)) (.ret (.tup [])) ([ABlk.resv] ++ (T res ++ J)):=by
 unfold m68 at hm
 refine ACall.done Tryz.func68 rfl rfl (nlst rfl) ?_
 show SX _ _ _ 56 _ _ _ _
 refine SX.seq (SX.rn 1 rfl (SOps.call rfl rfl rfl rfl rfl (c75 F l _) rdNone (SOps.re rfl (SX.seq (SX.rr rfl ?_)))))
 obtain ⟨o,ho,hm⟩:=bindE hm
 refine SX.forget (al':=[(0,.rptr l.av),(1,.yield lb),(4,.int .i64 (bif decide (1 < l.scope.steps) then l.scope.steps else 0)),(14,.int .i64 l.scope.steps),(15,.int .i64 0)]) (leA_of rfl) ?_
 refine SX.iterD (G:=Unit) (fun (s:Int×Int×W) _=>[(0,.rptr l.av),(1,.yield lb),(4,.int .i64 s.2.1),(14,.int .i64 l.scope.steps),(15,.int .i64 s.1)]) (fun _=>[]) (fun (s:Int×Int×W) _=>[ABlk.resv] ++ (T s.2.2 ++ J)) (fun (_:W) _=>[]) (fun (w:W) _=>[ABlk.resv] ++ (T w ++ J)) (fun _=>false) () ho rfl rfl rfl
  (fun _ _ _ h _=>by cases h) ?_ ?_
 ·rintro ⟨i,v,w⟩ g ot hb
  refine SX.seq (SX.rr rfl (SX.seq ?_))
  refine SX.condM rfl rfl hb (fun ht hb=>?_) (fun ht hb=>?_)
  ·refine SX.sk (SX.seq (SX.block (SX.seq (SX.rr rfl (SX.seq (SX.rn 4 rfl (SOps.light rfl rfl (lightV_len (f:=Pair.av) (xs:=l.free) rfl rfl Tryz.underlying110 rfl) rdNone (SOps.re rfl ?_))))))))
   obtain ⟨r,hr,hb⟩:=bindE hb
   unfold m68i at hr
   obtain ⟨o2,ho2,hr⟩:=bindE hr
   refine SX.forget (al':=[(0,.rptr l.av),(1,.yield lb),(4,.int .i64 v),(5,.int .i64 i),(14,.int .i64 l.scope.steps),(15,.int .i64 i),(21,.vw 2 (l.free.map Pair.av)),(22,.int .i64 l.free.length),(23,.int .i64 0)]) (leA_of rfl) ?_
   refine SX.iterD (G:=Unit) (fun (s:Int×Int×W) _=>[(0,.rptr l.av),(1,.yield lb),(4,.int .i64 s.2.1),(5,.int .i64 i),(14,.int .i64 l.scope.steps),(15,.int .i64 i),(21,.vw 2 (l.free.map Pair.av)),(22,.int .i64 l.free.length),(23,.int .i64 s.1)]) (fun _=>[]) (fun (s:Int×Int×W) _=>[ABlk.resv] ++ (T s.2.2 ++ J))
    (fun (x:Int×W) _=>[(0,.rptr l.av),(1,.yield lb),(4,.int .i64 x.1),(14,.int .i64 l.scope.steps),(15,.int .i64 i)]) (fun (x:Int×W) _=>[ABlk.resv] ++ (T x.2 ++ J)) S0 () ho2 rfl rfl rfl (fun s g n hn hlt=>?_) ?_ ?_
   ·have:n = 0:=Nat.eq_of_beq_eq_true hn
    subst this; rfl
   ·rintro ⟨j,v,w⟩ g ot hb
    refine SX.seq (SX.rr rfl (SX.seq ?_))
    refine SX.condM rfl rfl hb (fun ht hb=>?_) (fun ht hb=>?_)
    ·refine SX.sk (SX.seq (SX.block (SX.seq (SX.region ?_))))
     obtain ⟨p,hp,hb⟩:=bindE hb
     refine SOps.light rfl rfl (lightV_idx (f:=Pair.av) (xs:=l.free) rfl rfl Tryz.underlying110 rfl hp) rdNone (SOps.rn 1 rfl (SOps.fill (v:=_) 0 rfl rfl rfl rdNone (SOps.re rfl ?_)))
     refine SX.seq (SX.seq ?_)
     obtain ⟨skip,hj,hb⟩:=bindE hb
     refine SX.join [(0,.rptr l.av),(1,.yield lb),(4,.int .i64 v),(5,.int .i64 i),(7,.ptr 0 0 0 0),(14,.int .i64 l.scope.steps),(15,.int .i64 i),(21,.vw 2 (l.free.map Pair.av)),(22,.int .i64 l.free.length),(23,.int .i64 j),(41,.bool skip)] ([ABlk.row 0 2 [p.av]] ++ (T w ++ J)) (SX.draw follows_mixed rfl rdNone ?_) ?_
     ·refine PO.rn 2 rfl ?_
      refine PO.splitM rfl rfl rfl hj (fun hj=>?_) (fun hj=>?_)
      ·refine PO.rn 7 rfl ?_
       obtain ⟨f,hf,hj⟩:=bindE hj
       refine PO.light rfl rfl (lightV_idx (f:=Field.av) (xs:=l.sp.fields) rfl rfl Tryz.underlying23 rfl hf) (PO.re rfl ?_)
       obtain rfl:=oj hj
       exact ⟨rfl,CutTo.sr rfl⟩
      ·refine PO.re rfl ?_
       obtain rfl:=oj hj
       exact ⟨rfl,CutTo.sr rfl⟩
     refine SX.condM rfl rfl hb (fun ht hb=>?_) (fun ht hb=>?_)
     ·refine SX.ex (SX.rr rfl ?_)
      exact eI _ (eI () (aI (ojs hb) ⟨rfl,.cons rfl (leA_of rfl),.inr ⟨Unfilled.front (hT w) hJ,
       aI (Layout.avoid _ _) (aI hlb (aI trivial (aI trivial (aI trivial (aI trivial (aI (avoidL_map (Pair.avoid _)) (aI trivial (aI trivial trivial)))))))),trivial⟩⟩))
     ·refine SX.sk (SX.seq (SX.rr rfl (SX.seq ?_)))
      obtain ⟨w',hw',hb⟩:=bindE hb
      refine SX.rn 8 rfl ?_
      refine SOps.yield (own:=[ABlk.row 0 2 [p.av]]) (v:=Entry.mk (w64 (v + 1)) i p.fst p.snd) hy rfl rfl rfl rfl rfl rfl rfl (fun b hb=>?_) hJ trivial hw' ?_
      ·obtain rfl:=List.mem_singleton.1 hb
       exact aI (Pair.avoid _ _) trivial
      refine SOps.re rfl ?_
      refine SX.cond (t:=false) rfl rfl (fun ht=>by cases ht) (fun ht=>?_)
      refine SX.sk (SX.rr rfl ?_)
      exact eI _ (eI () (aI (ojs hb) ⟨rfl,.cons rfl (leA_of rfl),.inr ⟨Unfilled.front (hT w') hJ,
       aI (Layout.avoid _ _) (aI hlb (aI trivial (aI trivial (aI trivial (aI trivial (aI (avoidL_map (Pair.avoid _)) (aI trivial (aI trivial trivial)))))))),trivial⟩⟩))
    ·refine SX.ex ?_
     exact aI rfl (eI _ (eI () (aI (ojs hb) ⟨rfl,.cons rfl (leA_of rfl),.inl rfl⟩)))
   ·rintro ⟨v',w'⟩ g he
    subst he
    obtain rfl:=oj hr
    refine SX.rr rfl ?_
    exact eI _ (eI () (aI (ojs hb) ⟨rfl,.cons rfl (leA_of rfl),.inl rfl⟩))
  ·refine SX.ex ?_
   exact aI rfl (eI _ (eI () (aI (ojs hb) ⟨rfl,.nil,.inl rfl⟩)))
 ·intro w g he
  subst he
  obtain rfl:=oj hm
  exact ⟨.inl rfl,rfl,rfl⟩
end Go.AL
namespace Go.AL
open Go
variable {P:Program}
mutual
theorem avoid_noneV:∀ (v:AV),avoidV (fun _=>false) v
 | .ptr b _ _ _=>by simp only [avoidV]
 | .hsl b _ _ _ _=>by simp only [avoidV]
 | .map b=>by simp only [avoidV]
 | .yield b=>by simp only [avoidV]
 | .rptr v=>by simp only [avoidV]; exact avoid_noneV v
 | .sl _ xs _=>by simp only [avoidV]; exact avoid_noneL xs
 | .vw _ xs=>by simp only [avoidV]; exact avoid_noneL xs
 | .agg xs=>by simp only [avoidV]; exact avoid_noneL xs
 | .tup xs=>by simp only [avoidV]; exact avoid_noneL xs
 | .func _ f c=>by simp only [avoidV]; exact ⟨avoid_noneL f,avoid_noneL c⟩
 | .iface _ v=>by simp only [avoidV]; exact avoid_noneV v
 | .bool _=>by simp only [avoidV]
 | .int _ _=>by simp only [avoidV]
 | .str _=>by simp only [avoidV]
 | .nilp=>by simp only [avoidV]
 | .nils=>by simp only [avoidV]
 | .nilm=>by simp only [avoidV]
 | .nilf=>by simp only [avoidV]
 | .nili=>by simp only [avoidV]
 | .poison=>by simp only [avoidV]
theorem avoid_noneL:∀ (l:List AV),avoidL (fun _=>false) l
 | []=>by simp only [avoidL]
 | v :: l=>by simp only [avoidL]; exact ⟨avoid_noneV v,avoid_noneL l⟩
end
theorem avoid_noneB (b:ABlk):avoidB (fun _=>false) b:=by
 cases b with
 | row g sz xs=>exact avoid_noneL xs
 | map es=>exact ⟨avoid_noneL _,avoid_noneL _⟩
 | loop st p env ps a b=>exact avoid_noneL env
 | defr=>trivial
 | dead=>trivial
 | resv=>trivial
theorem avoid_lst {S:Nat→Bool} {N:Nat} {al:List (Nat×AV)} (h:avoidA S al):avoidL S (lst N al):=by
 refine avoidL_iff.2 fun v hv=>?_
 simp only [lst,List.mem_map] at hv
 obtain ⟨t,_,rfl⟩:=hv
 exact avoidA_get h t
theorem Unfilled.own {S:Nat→Bool} {A B Tw J:List ABlk} (hA:∀ i,i < A.length→S i = true) (hS:∀ b,A.length + B.length≤b→S b = false) (hB:avoidP S A.length B) (hT:∀ b ∈ Tw,avoidB S b) (hJ:AllD J) :
  Unfilled S (A ++ (B ++ (Tw ++ J))) (List.replicate A.length .resv ++ (unf S A.length B ++ (Tw ++ J))):=by
 refine ⟨by simp [unf_length],fun b hb hlt=>?_,fun b hb=>?_,fun b x hb hx=>?_⟩
 ·rcases Nat.lt_or_ge b A.length with h | h
  ·rw [List.getElem?_append_left (by simpa using h)]
   simp [h]
  ·rw [List.getElem?_append_right (by simpa using h),List.length_replicate]
   have h2:b - A.length < B.length:=by
    rcases Nat.lt_or_ge b (A.length + B.length) with h2 | h2
    ·omega
    ·rw [hS b h2] at hb; cases hb
   rw [List.getElem?_append_left (by rw [unf_length]; exact h2),unf_get]
   rw [show A.length + (b - A.length) = b by omega,hb]
   simp [h2]
 ·rcases Nat.lt_or_ge b A.length with h | h
  ·rw [hA b h] at hb; cases hb
  ·rw [List.getElem?_append_right (by simpa using h),List.length_replicate,List.getElem?_append_right h]
   rcases Nat.lt_or_ge (b - A.length) B.length with h2 | h2
   ·rw [List.getElem?_append_left (by rw [unf_length]; exact h2),List.getElem?_append_left h2,unf_get]
    rw [show A.length + (b - A.length) = b by omega,hb]
    simp
   ·rw [List.getElem?_append_right (by rw [unf_length]; exact h2),List.getElem?_append_right h2,unf_length]
 ·rcases Nat.lt_or_ge b A.length with h | h
  ·rw [hA b h] at hb; cases hb
  ·rw [List.getElem?_append_right h] at hx
   rcases Nat.lt_or_ge (b - A.length) B.length with h2 | h2
   ·rw [List.getElem?_append_left h2] at hx
    exact avoidP_get hB hx (by rw [show A.length + (b - A.length) = b by omega]; exact hb)
   ·rw [List.getElem?_append_right h2] at hx
    rcases Nat.lt_or_ge (b - A.length - B.length) Tw.length with h3 | h3
    ·rw [List.getElem?_append_left h3] at hx
     exact hT x (List.mem_of_getElem? hx)
    ·rw [List.getElem?_append_right h3] at hx
     exact avoid_dead (hJ.get hx)
variable {rd:Option Nat} {N:Nat} {al:List (Nat×AV)} {df:List ADef} {h h':List ABlk} {all:Array Oper} {k:Nat} {o:Oper} {os:List Oper} {Q:AX→List (Nat×AV)→List ADef→List ABlk→Prop}
theorem SOps.yieldR {W α:Type} {l m:Nat} {av:α→AV} {T:W→List ABlk} {step:W→α→Option W} {S:Nat→Bool} {own J:List ABlk} {w w':W} {v:α} {c:Call} {g:Operand} (hy:YOk P l av T step m S) (hf:fitsN N all o = true) (hw:wantedA all al o = some true) (ho:o.op = .call c) (hc:c.callee = .value g) (hg:avA al g = .yield l)
  (ha:c.args.toList.map (avA al) = [av v]) (hown:own.length = m) (hav:∀ b ∈ own,avoidB S b) (hJ:AllD J) (hd:avoidD S df) (hs:step w v = some w') (hr:RdOk rd (own ++ (T w' ++ J)))
  (h2:SOps P rd all (k + 1) os N (putA al o.dst (.bool true)) df (own ++ (T w' ++ J)) Q):SOps P rd all k (o :: os) N al df (own ++ (T w ++ J)) Q:=by
 have hf':=hf
 simp only [fitsN,Bool.and_eq_true] at hf'
 have hx:=avA_op (al:=al) hf'.1.2
 rw [ho] at hx
 have hg':aval (lst N al) g = .yield l:=by
  rw [hx g (by simp only [Op.operands,Call.operands,hc]; simp)]; exact hg
 have ha':c.args.toList.map (aval (lst N al)) = [av v]:=by
  rw [← ha]
  exact List.map_congr_left fun y hy=>hx y (by simp only [Op.operands,Call.operands]; cases c.callee <;> simp <;> (try right) <;> simpa using hy)
 exact SOps.step hf hw (hy.run w v w' hs own J rd o _ df c g hown hav hJ hd ho hc hg' ha') hr h2
theorem SX.rangeP {g:Operand} {ps:Array Tmp} {assign body:Code} {f:FuncId} {first captured:List AV} {v:AV} {own own1 own2 Tw J rest2:List ABlk} {e2:List AV} {ps2:Array Tmp} {assign2 body2:Code} (lb n:Nat)
  (hlr:own[lb]? = some .resv) (hlt:tmpLt N g = true) (hg:avA al g = .func (.func f) first captured) (hcal:callable P f = true) (ho1:own1 = own.set lb (.loop .ready none (lst N al) ps assign body))
  (hcall:ACall P f (first ++ [.yield lb] ++ captured) (own1 ++ (Tw ++ (J ++ [ABlk.defr]))) (.ret v) (own2 ++ rest2))
  (hb2:own2[lb]? = some (.loop .ready none e2 ps2 assign2 body2)) (hn:n = own.length + Tw.length + J.length)
  (hq:Q .normal al (.mark n :: df) (own2.set lb (.loop .exhausted none e2 ps2 assign2 body2) ++ rest2)) :
  SX P none (.rangeFunc g ps assign body) N al df (own ++ (Tw ++ J)) Q:=by
 have h1:lb < own.length:=(List.getElem?_eq_some_iff.1 hlr).1
 have h2:lb < own2.length:=(List.getElem?_eq_some_iff.1 hb2).1
 have e1:((own ++ (Tw ++ J)) ++ [ABlk.defr]).set lb (.loop .ready none (lst N al) ps assign body) = own1 ++ (Tw ++ (J ++ [ABlk.defr])):=by
  rw [ho1,List.append_assoc,List.append_assoc,List.set_append_left _ _ h1]
 have e2:n = (own ++ (Tw ++ J)).length:=by rw [hn]; simp; omega
 rw [e2] at hq
 refine SX.rangeF lb (by rw [List.getElem?_append_left h1]; exact hlr) hlt hg hcal (by rw [e1]; exact hcall) (by rw [List.getElem?_append_left h2]; exact hb2) ?_
 rw [List.set_append_left _ _ h2]
 exact hq
def DoneM (own Tw J:List ABlk):AX→List (Nat×AV)→List ADef→List ABlk→Prop:=fun x al df h=>
 (x = .normal ∨ x = .ret)∧∃ gJ,h = own ++ (Tw ++ (J ++ gJ))∧Mk (own.length + Tw.length + J.length) df gJ
theorem ACall.doneM {f:FuncId} {fn:Func} {c:Code} {args:List AV} {own Tw J:List ABlk} (hf:P.funcs[f]? = some fn) (hb:fn.body = some c) (hres:fn.results = #[]) {al:List (Nat×AV)}
  (hal:args ++ List.replicate (fn.ntmps - args.length) .poison = lst fn.ntmps al) (hx:SX P none c fn.ntmps al [] h (DoneM own Tw J)):∃ K,AllD K∧ACall P f args h (.ret (.tup [])) (own ++ (Tw ++ (J ++ K))):=by
 obtain ⟨x,al',df',h2,g1,_,hx,gJ,rfl,hm⟩:=hx
 have hm':Mk (own ++ (Tw ++ J)).length df' gJ:=by
  rw [show (own ++ (Tw ++ J)).length = own.length + Tw.length + J.length by simp; omega]; exact hm
 obtain ⟨K',hK,hl⟩:=Mk.leave (P:=P) (fn:=fn) (env:=lst fn.ntmps al') (K:=[]) (e:=.ret (packV [])) hm' trivial (fun K hK=>ALeave.ret (by rw [hres]; rfl))
 rw [List.append_nil] at hl
 have e1:own ++ (Tw ++ (J ++ gJ)) = (own ++ (Tw ++ J)) ++ gJ:=by simp
 have e2:(own ++ (Tw ++ J)) ++ K' = own ++ (Tw ++ (J ++ K')):=by simp
 rw [e2] at hl
 refine ⟨K',hK,?_⟩
 rcases hx with rfl | rfl
 ·exact ACall.of_body (out:=⟨.normal,lst fn.ntmps al',df',own ++ (Tw ++ (J ++ gJ))⟩) (m:=.returning) hf hb (by rw [hal]; exact g1) rfl (by rw [e1]; exact hl)
 ·exact ACall.of_body (out:=⟨.ret,lst fn.ntmps al',df',own ++ (Tw ++ (J ++ gJ))⟩) (m:=.returning) hf hb (by rw [hal]; exact g1) rfl (by rw [e1]; exact hl)
theorem len1 {α:Type} {l:List α} (h:l.length = 1):∃ a,l = [a]:=List.length_eq_one_iff.1 h
theorem len3 {α:Type} {l:List α} (h:l.length = 3):∃ a b c,l = [a,b,c]:=by
 match l,h with
 | [a,b,c],_=>exact ⟨a,b,c,rfl⟩
theorem len5 {α:Type} {l:List α} (h:l.length = 5):∃ a b c d e,l = [a,b,c,d,e]:=by
 match l,h with
 | [a,b,c,d,e],_=>exact ⟨a,b,c,d,e,rfl⟩
end Go.AL
namespace Go.AL
open Go
variable {P:Program} {N:Nat} {al:List (Nat×AV)} {df:List ADef} {Q:AX→List (Nat×AV)→List ADef→List ABlk→Prop}
theorem SX.rangeN {g:Operand} {ps:Array Tmp} {assign body:Code} {f:FuncId} {first captured:List AV} {v:AV} {A Tw Tw2 J:List ABlk} {t4:ABlk} (lb n:Nat) (hlb:lb = A.length + 1)
  (hlt:tmpLt N g = true) (hg:avA al g = .func (.func f) first captured) (hcal:callable P f = true) (hn:n = A.length + 2 + Tw.length + J.length)
  (hcall:∃ own2 K2,own2.length = A.length∧AllD K2∧ACall P f (first ++ [.yield lb] ++ captured) (A ++ (t4 :: .loop .ready none (lst N al) ps assign body :: Tw ++ (J ++ [ABlk.defr]))) (.ret v) (own2 ++ (t4 :: .loop .ready none (lst N al) ps assign body :: Tw2 ++ (J ++ [ABlk.defr] ++ K2))))
  (hq:∀ own2 K2,own2.length = A.length→AllD K2→Q .normal al (.mark n :: df) (own2 ++ (t4 :: .loop .exhausted none (lst N al) ps assign body :: Tw2 ++ (J ++ [ABlk.defr] ++ K2)))) :
  SX P none (.rangeFunc g ps assign body) N al df (A ++ (t4 :: .resv :: Tw ++ J)) Q:=by
 subst hlb
 obtain ⟨own2,K2,h1,h2,hc⟩:=hcall
 have e:∀ (X:List ABlk) (b:ABlk) (T J:List ABlk),X ++ (t4 :: b :: T ++ J) = (X ++ [t4,b]) ++ (T ++ J):=fun X b T J=>by simp
 rw [e]
 rw [e,e] at hc
 have g1:∀ (X:List ABlk) (b:ABlk),X.length = A.length→(X ++ [t4,b])[A.length + 1]? = some b:=fun X b hX=>by
  rw [List.getElem?_append_right (by omega),hX]; simp
 have g2:∀ (X:List ABlk) (b b':ABlk),X.length = A.length→(X ++ [t4,b]).set (A.length + 1) b' = X ++ [t4,b']:=fun X b b' hX=>by
  rw [List.set_append_right _ _ (by omega),hX]; simp
 refine SX.rangeP (own:=A ++ [t4,.resv]) (A.length + 1) n (g1 A _ rfl) hlt hg hcal (g2 A _ _ rfl).symm hc (g1 own2 _ h1) (by rw [hn]; simp) ?_
 rw [g2 own2 _ _ h1,← e]
 exact hq own2 K2 h1 h2
end Go.AL
namespace Go.AL
open Go
variable {P:Program}
theorem Ret.mkD {fn:Func} {v:AV} {al:List (Nat×AV)} {df:List ADef} {Pp J:List ABlk} {vs:List AV} (hm:Mk Pp.length df J) (hr:∀ K,AllD K→resultsV P (lst fn.ntmps al) (Pp ++ K) fn.results.toList = some vs) (hf:∀ K,AllD K→FrozenV (Pp ++ K) (packV vs) v):Ret P fn v al df (Pp ++ J):=by
 obtain ⟨K',hK,hl⟩:=Mk.leave (P:=P) (fn:=fn) (env:=lst fn.ntmps al) (K:=[]) (e:=.ret (packV vs)) hm trivial (fun K hK=>ALeave.ret (hr K hK))
 rw [List.append_nil] at hl
 exact ⟨packV vs,_,hl,hf K' hK⟩
theorem len7 {α:Type} {l:List α} (h:l.length = 7):∃ a b c d e f g,l = [a,b,c,d,e,f,g]:=by
 match l,h with
 | [a,b,c,d,e,f,g],_=>exact ⟨a,b,c,d,e,f,g,rfl⟩
end Go.AL
namespace Go.AL
open Go Go.Proofs
set_option maxRecDepth 10000
set_option maxHeartbeats 4000000
def S2 (b:Nat):Bool:=Nat.beq b 2
theorem S2_big (b:Nat) (h:3≤b):S2 b = false:=by
 cases hb:S2 b with
 | false=>rfl
 | true=>have:b = 2:=Nat.eq_of_beq_eq_true hb; omega
theorem S2_eq {b:Nat} (h:S2 b = true):b = 2:=Nat.eq_of_beq_eq_true h
def m56 (F:Nat) (l:Layout):Option Int:=m68 F l (fun _ e=>some e.variable_) (bif decide (1 < l.scope.steps) then l.scope.steps else 0)
theorem c56 (F:Nat) (l:Layout) (res:Int) (hm:m56 F l = some res) (h:List ABlk):ACall Tryz.prog 56 [.rptr l.av] h (.ret (.int .i64 res)) h:=by
 unfold m56 at hm
 refine ACall.mirD 3 Tryz.func56 rfl (.cons (.rptr (Layout.apart _)) .nil) (nlst rfl) ?_ h
 show SX _ _ _ 13 _ _ _ _
 refine SX.seq (SX.rr rfl (SX.seq (SX.rn 1 rfl (SOps.call rfl rfl rfl rfl rfl (c75 F l _) rdNone (SOps.re rfl ?_)))))
 refine SX.seq (SX.seq ?_)
 refine SX.rr rfl (SX.block (SX.forget (al':=[(0,.rptr l.av),(3,.ptr 3 0 0 0),(8,.func (.func 68) [.rptr l.av] [])]) (leA_of rfl) ?_))
 refine SX.rangeF 1 rfl rfl rfl rfl (c68 F l (fun (_:Int) e=>some e.variable_) _ res hm (lb:=1)
  (T:=fun (w:Int)=>[.loop .ready none (lst 13 [(0,.rptr l.av),(3,.ptr 3 0 0 0),(8,.func (.func 68) [.rptr l.av] [])]) #[9] _ _,.resv,.row 0 1 [.int .i64 w]]) (S:=S2) ?_ ?_ [ABlk.defr] ⟨.inl rfl,trivial⟩ rfl) rfl ?_
 ·refine ⟨fun u e u' hst own J rd o ρ df c g hown hav hJ hd ho hc hg ha=>?_⟩
  obtain ⟨x0,rfl⟩:=List.length_eq_one_iff.1 hown
  obtain rfl:=oj hst
  apply AStep.unfill S2 (v:=.bool true) (hv:=trivial) (hd:=hd)
  ·apply AStep.yield ho hc hg
   rw [ha]
   refine ARound.of_SX (l:=1) (N:=13) (t:=9) (al:=[(0,.rptr l.av),(3,.ptr 3 0 0 0),(8,.func (.func 68) [.rptr l.av] [])]) (al1:=[(3,.ptr 3 0 0 0),(4,.ptr 2 0 0 0)])
    (h1:=[x0,.loop .ready none (lst 13 [(0,.rptr l.av),(3,.ptr 3 0 0 0),(8,.func (.func 68) [.rptr l.av] [])]) #[9] _ _,.row 0 4 [e.av],.row 0 1 [.int .i64 u]] ++ J)
    (h2:=[x0,.loop .busy none (lst 13 [(0,.rptr l.av),(3,.ptr 3 0 0 0),(8,.func (.func 68) [.rptr l.av] [])]) #[9] _ _,.row 0 4 [e.av],.row 0 1 [.int .i64 e.variable_]] ++ J) (by decide) rfl ?_ rfl ?_ rfl
   ·refine SX.region (SOps.fill (v:=_) 2 rfl rfl rfl (rdS rfl) (SOps.heavy (v:=_) rfl rfl rfl (rdS rfl) ?_))
    refine SOps.nil (rdS rfl) ⟨rfl,rfl,.cons rfl (.cons rfl .nil),rfl⟩
   ·refine SX.block (SX.region ?_)
    iterate 2 refine SOps.light (v:=_) rfl rfl rfl (rdS rfl) ?_
    refine SOps.heavy (v:=_) rfl rfl rfl (rdS rfl) ?_
    refine SOps.nil (rdS rfl) ⟨rfl,rfl,rfl⟩
  ·intro b hb _
   obtain rfl:=S2_eq hb
   rfl
  ·refine Unfilled.pool (l:=[x0,.loop .ready none (lst 13 [(0,.rptr l.av),(3,.ptr 3 0 0 0),(8,.func (.func 68) [.rptr l.av] [])]) #[9] _ _,.row 0 4 [e.av],.row 0 1 [.int .i64 e.variable_]])
    (aI (hav x0 (List.mem_singleton.2 rfl)) (aI (avoid_lst (al:=[(0,.rptr l.av),(3,.ptr 3 0 0 0),(8,.func (.func 68) [.rptr l.av] [])]) ⟨Layout.avoid _ _,rfl,⟨⟨Layout.avoid _ _,trivial⟩,trivial⟩,trivial⟩) (aI trivial (aI (aI trivial trivial) trivial)))) hJ (fun b hb=>S2_big b (by simp at hb; omega))
 ·intro w b hb
  rcases List.mem_cons.1 hb with rfl | hb
  ·exact avoid_lst (al:=[(0,.rptr l.av),(3,.ptr 3 0 0 0),(8,.func (.func 68) [.rptr l.av] [])]) ⟨Layout.avoid _ _,rfl,⟨⟨Layout.avoid _ _,trivial⟩,trivial⟩,trivial⟩
  ·rcases List.mem_cons.1 hb with rfl | hb
   ·trivial
   ·obtain rfl:=List.mem_singleton.1 hb
    exact aI trivial trivial
 ·refine SX.seq (SX.rr rfl (SX.rt ?_))
  exact ⟨rfl,[.resv,.loop .exhausted none _ #[9] _ _,.resv,.row 0 1 [.int .i64 res]],[ABlk.defr],[.int .i64 res],rfl,⟨[],[],trivial,rfl,rfl,trivial⟩,fun K hK=>rfl,fun K hK=>.apart .int⟩
end Go.AL
