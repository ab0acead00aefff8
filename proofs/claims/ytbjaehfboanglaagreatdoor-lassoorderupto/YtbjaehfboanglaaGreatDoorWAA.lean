/- Part 1 of 11 of the proof: the lemmas and contracts of ALCore .. ALAppend3. -/
import Derived.RangeFuncRecord
import Derived.RecoverIn
import Derived.Laws.Sem
import Derived.Laws.StructEq
set_option linter.unusedVariables false
set_option linter.unusedSimpArgs false
namespace Go.AL
open Go
inductive AV where
 | bool (b:Bool)
 | int (k:IntKind) (n:Int)
 | str (s:ByteArray)
 | nilp
 | ptr (b g i o:Nat)
 | rptr (v:AV)
 | nils
 | sl (sz:Nat) (xs:List AV) (cap:Option Nat)
 | vw (sz:Nat) (xs:List AV)
 | hsl (b g i len:Nat) (cap:Option Nat)
 | nilm
 | map (b:Nat)
 | func (fn:Fn) (first captured:List AV)
 | yield (b:Nat)
 | nilf
 | iface (t:TypeId) (v:AV)
 | nili
 | agg (cs:List AV)
 | tup (vs:List AV)
 | poison
 deriving Inhabited
structure Loc where
 g:Nat
 cb:Nat
 d:Nat
 sz:Nat
 size:Nat
structure Ctx where
 ρ:Nat→Option Loc
 n:Nat
 forb:Nat→Prop
 res:Nat→Prop
 w:World
def Ctx.born (C:Ctx) (b:Nat):Prop:=b < C.n∧¬ C.res b
def Ctx.owned (C:Ctx) (blk:Nat):Prop:=∃ b l,b < C.n∧C.ρ b = some l∧l.cb = blk
def Ctx.ok (C:Ctx) (blk:Nat):Prop:=blk < C.w.heap.size∧¬ C.forb blk∧¬ C.owned blk
def Holds (w:World) (a:Addr) (v:Value):Prop:=∀ j (h:j < v.cells.size),w.cell? ⟨a.block,a.off + j,none⟩ = some v.cells[j]
def HoldsRow (w:World) (a:Addr) (sz:Nat) (vs:List Value):Prop:=
 ∀ i (h:i < vs.length),vs[i].cells.size = sz∧Holds w ⟨a.block,a.off + i * sz,none⟩ vs[i]
mutual
def VR (C:Ctx):AV→Value→Prop
 | .bool b,v=>v = .bool b
 | .int k n,v=>v = .int k n
 | .str s,v=>v = .string s
 | .nilp,v=>v = .pointer none
 | .ptr b g i o,v=>C.born b∧∃ a,v = .pointer (some a)∧∀ l,C.ρ b = some l→g≤l.g∧(g = l.g→a = ⟨l.cb,l.d + i * l.sz + o,none⟩)
 | .rptr x,v=>∃ a y,v = .pointer (some a)∧a.spot = none∧C.ok a.block∧0 < y.cells.size∧Holds C.w a y∧VR C x y
 | .nils,v=>v = .slice none 0 0
 | .sl sz xs cap,v=>∃ a c vs,v = .slice (some a) xs.length c∧xs.length≤c∧(∀ k,cap = some k→c = k)∧(c ≠ 0→a.spot = none) ∧
   (xs ≠ []→C.ok a.block)∧HoldsRow C.w a sz vs∧VRL C xs vs
 | .vw sz xs,v=>(v = .slice none 0 0∧xs = []) ∨ ∃ a c vs,v = .slice (some a) xs.length c∧xs.length≤c∧(c ≠ 0→a.spot = none)∧(xs ≠ []→C.ok a.block)∧HoldsRow C.w a sz vs∧VRL C xs vs
 | .hsl b g i len cap,v=>C.born b∧∃ a c,v = .slice (some a) len c∧len≤c∧(∀ k,cap = some k→c = k)∧∀ l,C.ρ b = some l→g≤l.g∧(g = l.g →
   (c ≠ 0→a = ⟨l.cb,l.d + i * l.sz,none⟩)∧l.d + (i + c) * l.sz≤l.size)
 | .nilm,v=>v = .map none
 | .map b,v=>C.born b∧∃ r,v = .map (some r)∧∀ l,C.ρ b = some l→l.g = 0→r = l.cb
 | .func fn first cap,v=>∃ f c,v = .func fn f c∧VRL C first f.toList∧VRL C cap c.toList
 | .yield b,v=>C.born b∧∃ r,v = .func (.yield r) #[] #[]∧∀ l,C.ρ b = some l→l.g = 0→r = l.cb
 | .nilf,v=>v = .nilFunc
 | .iface t x,v=>∃ y,v = .iface t y∧VR C x y
 | .nili,v=>v = .nilIface
 | .agg cs,v=>∃ arr,v = .agg arr∧VRL C cs arr.toList
 | .tup vs,v=>∃ arr,v = .tuple arr∧VRL C vs arr.toList
 | .poison,_=>True
def VRL (C:Ctx):List AV→List Value→Prop
 | [],vs=>vs = []
 | x :: xs,vs=>∃ y ys,vs = y :: ys∧VR C x y∧VRL C xs ys
end
structure Ext (C C':Ctx):Prop where
 forb:C'.forb = C.forb
 n:C.n≤C'.n
 size:C.w.heap.size≤C'.w.heap.size
 same:∀ blk,blk < C.w.heap.size→¬ C.owned blk→C'.w.heap[blk]? = C.w.heap[blk]?
 image:∀ blk,C'.owned blk→C.owned blk ∨ C.w.heap.size≤blk
 born:∀ b,C.born b→C'.born b
 ρ:∀ b,C.born b→∀ l',C'.ρ b = some l'→C.ρ b = some l' ∨ ∃ l,C.ρ b = some l∧l.g < l'.g∧l.sz = l'.sz
 tape:C'.w.tape = C.w.tape
 os:C'.w.os = C.w.os
 output:C'.w.output = C.w.output
theorem Ext.refl (C:Ctx):Ext C C:=⟨rfl,Nat.le_refl _,Nat.le_refl _,fun _ _ _=>rfl,fun _ h=>.inl h,fun _ h=>h,fun _ _ _ h=>.inl h,rfl,rfl,rfl⟩
theorem Ext.trans {A B C:Ctx} (h:Ext A B) (k:Ext B C):Ext A C where
 forb:=k.forb.trans h.forb
 n:=Nat.le_trans h.n k.n
 size:=Nat.le_trans h.size k.size
 same blk hb ho:=(k.same blk (Nat.lt_of_lt_of_le hb h.size) (fun hB=>(h.image blk hB).elim ho (fun hge=>absurd hge (by omega)))).trans (h.same blk hb ho)
 image blk hC:=by
  rcases k.image blk hC with hB | hge
  ·exact h.image blk hB
  ·exact .inr (Nat.le_trans h.size hge)
 born b hb:=k.born b (h.born b hb)
 ρ b hb l' hl':=by
  rcases k.ρ b (h.born b hb) l' hl' with hB | ⟨l,hl,hg,hs⟩
  ·exact h.ρ b hb l' hB
  ·rcases h.ρ b hb l hl with hA | ⟨l0,hl0,hg0,hs0⟩
   ·exact .inr ⟨l,hA,hg,hs⟩
   ·exact .inr ⟨l0,hl0,Nat.lt_trans hg0 hg,hs0.trans hs⟩
 tape:=k.tape.trans h.tape
 os:=k.os.trans h.os
 output:=k.output.trans h.output
theorem Ext.cell {C C':Ctx} (h:Ext C C') {a:Addr} {v:Value} (ho:¬ C.owned a.block) (hc:C.w.cell? a = some v):C'.w.cell? a = some v:=by
 have hlt:a.block < C.w.heap.size:=by
  rcases Nat.lt_or_ge a.block C.w.heap.size with h | h
  ·exact h
  ·simp [World.cell?,Array.getElem?_eq_none h] at hc
 have:=h.same a.block hlt ho
 simpa [World.cell?,this] using hc
theorem Ext.holds {C C':Ctx} (h:Ext C C') {a:Addr} {v:Value} (ho:¬ C.owned a.block) (hc:Holds C.w a v):Holds C'.w a v:=
 fun j hj=>h.cell (a:=⟨a.block,a.off + j,none⟩) ho (hc j hj)
theorem Ext.holdsRow {C C':Ctx} (h:Ext C C') {a:Addr} {sz:Nat} {vs:List Value} (ho:¬ C.owned a.block) (hc:HoldsRow C.w a sz vs):HoldsRow C'.w a sz vs:=
 fun i hi=>⟨(hc i hi).1,h.holds (a:=⟨a.block,a.off + i * sz,none⟩) ho (hc i hi).2⟩
theorem Value.cells_pos_or (v:Value):v.cells.size = 0→∃ a,v = .agg a∧a.size = 0:=by
 cases v <;> simp [Value.cells]
theorem lt_of_cell {w:World} {a:Addr} {v:Value} (hc:w.cell? a = some v):a.block < w.heap.size:=by
 rcases Nat.lt_or_ge a.block w.heap.size with h | h
 ·exact h
 ·simp [World.cell?,Array.getElem?_eq_none h] at hc
theorem Ext.ok {C C':Ctx} (h:Ext C C') {blk:Nat} (ho:C.ok blk):C'.ok blk:=
 ⟨Nat.lt_of_lt_of_le ho.1 h.size,h.forb ▸ ho.2.1,fun hc=>(h.image blk hc).elim ho.2.2 (fun hge=>absurd hge (by have:=ho.1; omega))⟩
mutual
theorem VR.ext {C C':Ctx} (h:Ext C C'):∀ (x:AV) (v:Value),VR C x v→VR C' x v
 | .bool _,_,hv=>hv
 | .int _ _,_,hv=>hv
 | .str _,_,hv=>hv
 | .nilp,_,hv=>hv
 | .ptr b g i o,v,hv=>by
  simp only [VR] at hv ⊢
  obtain ⟨hb,a,rfl,hv⟩:=hv
  refine ⟨h.born _ hb,a,rfl,fun l' hl'=>?_⟩
  rcases h.ρ b hb l' hl' with hl | ⟨l,hl,hg,_⟩
  ·exact hv l' hl
  ·exact ⟨Nat.le_of_lt (Nat.lt_of_le_of_lt (hv l hl).1 hg),fun e=>absurd (hv l hl).1 (by omega)⟩
 | .rptr x,v,hv=>by
  simp only [VR] at hv ⊢
  obtain ⟨a,y,rfl,hs,hok,hp,hh,hx⟩:=hv
  exact ⟨a,y,rfl,hs,h.ok hok,hp,h.holds hok.2.2 hh,VR.ext h x y hx⟩
 | .nils,_,hv=>hv
 | .sl sz xs cap,v,hv=>by
  simp only [VR] at hv ⊢
  obtain ⟨a,c,vs,rfl,hc,hcap,hs,hok,hh,hx⟩:=hv
  refine ⟨a,c,vs,rfl,hc,hcap,hs,fun hne=>h.ok (hok hne),?_,VRL.ext h xs vs hx⟩
  cases xs with
  | nil=>simp only [VRL] at hx; subst hx; intro i hi; simp at hi
  | cons x xs=>exact h.holdsRow (hok (by simp)).2.2 hh
 | .hsl b g i len cap,v,hv=>by
  simp only [VR] at hv ⊢
  obtain ⟨hb,a,c,rfl,h1,h2,hv⟩:=hv
  refine ⟨h.born _ hb,a,c,rfl,h1,h2,fun l' hl'=>?_⟩
  rcases h.ρ b hb l' hl' with hl | ⟨l,hl,hg,_⟩
  ·exact hv l' hl
  ·exact ⟨Nat.le_of_lt (Nat.lt_of_le_of_lt (hv l hl).1 hg),fun e=>absurd (hv l hl).1 (by omega)⟩
 | .vw sz xs,v,hv=>by
  simp only [VR] at hv ⊢
  rcases hv with hv | ⟨a,c,vs,rfl,hc,hs,hok,hh,hx⟩
  ·exact .inl hv
  refine .inr ⟨a,c,vs,rfl,hc,hs,fun hne=>h.ok (hok hne),?_,VRL.ext h xs vs hx⟩
  cases xs with
  | nil=>simp only [VRL] at hx; subst hx; intro i hi; simp at hi
  | cons x xs=>exact h.holdsRow (hok (by simp)).2.2 hh
 | .nilm,_,hv=>hv
 | .map b,v,hv=>by
  simp only [VR] at hv ⊢
  obtain ⟨hb,r,rfl,hv⟩:=hv
  refine ⟨h.born _ hb,r,rfl,fun l' hl'=>?_⟩
  rcases h.ρ b hb l' hl' with hl | ⟨l,hl,hg,_⟩
  ·exact hv l' hl
  ·exact fun e=>absurd hg (by omega)
 | .func fn first cap,v,hv=>by
  simp only [VR] at hv ⊢
  obtain ⟨f,c,rfl,h1,h2⟩:=hv
  exact ⟨f,c,rfl,VRL.ext h first f.toList h1,VRL.ext h cap c.toList h2⟩
 | .yield b,v,hv=>by
  simp only [VR] at hv ⊢
  obtain ⟨hb,r,rfl,hv⟩:=hv
  refine ⟨h.born _ hb,r,rfl,fun l' hl'=>?_⟩
  rcases h.ρ b hb l' hl' with hl | ⟨l,hl,hg,_⟩
  ·exact hv l' hl
  ·exact fun e=>absurd hg (by omega)
 | .nilf,_,hv=>hv
 | .iface t x,v,hv=>by
  simp only [VR] at hv ⊢
  obtain ⟨y,rfl,hx⟩:=hv
  exact ⟨y,rfl,VR.ext h x y hx⟩
 | .nili,_,hv=>hv
 | .agg cs,v,hv=>by
  simp only [VR] at hv ⊢
  obtain ⟨arr,rfl,hx⟩:=hv
  exact ⟨arr,rfl,VRL.ext h cs _ hx⟩
 | .tup cs,v,hv=>by
  simp only [VR] at hv ⊢
  obtain ⟨arr,rfl,hx⟩:=hv
  exact ⟨arr,rfl,VRL.ext h cs _ hx⟩
 | .poison,_,_=>by simp only [VR]
theorem VRL.ext {C C':Ctx} (h:Ext C C'):∀ (xs:List AV) (vs:List Value),VRL C xs vs→VRL C' xs vs
 | [],_,hv=>hv
 | x :: xs,vs,hv=>by
  simp only [VRL] at hv ⊢
  obtain ⟨y,ys,rfl,h1,h2⟩:=hv
  exact ⟨y,ys,rfl,VR.ext h x y h1,VRL.ext h xs ys h2⟩
end
theorem VRL.length {C:Ctx}:∀ {xs:List AV} {vs:List Value},VRL C xs vs→xs.length = vs.length
 | [],vs,h=>by simp only [VRL] at h; subst h; rfl
 | x :: xs,vs,h=>by
  simp only [VRL] at h
  obtain ⟨y,ys,rfl,_,h2⟩:=h
  simp [VRL.length h2]
theorem VRL.get {C:Ctx}:∀ {xs:List AV} {vs:List Value},VRL C xs vs→∀ {i:Nat} {x:AV},xs[i]? = some x→∃ y,vs[i]? = some y∧VR C x y
 | [],vs,h,i,x,hx=>by simp at hx
 | z :: xs,vs,h,i,x,hx=>by
  simp only [VRL] at h
  obtain ⟨y,ys,rfl,h1,h2⟩:=h
  cases i with
  | zero=>simp at hx; subst hx; exact ⟨y,rfl,h1⟩
  | succ i=>simp at hx; simpa using VRL.get h2 hx
theorem VRL.nil {C:Ctx}:VRL C [] []:=by simp only [VRL]
theorem VRL.cons {C:Ctx} {x:AV} {y:Value} {xs:List AV} {ys:List Value} (h:VR C x y) (hs:VRL C xs ys):VRL C (x :: xs) (y :: ys):=by
 simp only [VRL]; exact ⟨y,ys,rfl,h,hs⟩
theorem VRL.of_cons {C:Ctx} {x:AV} {y:Value} {xs:List AV} {ys:List Value} (h:VRL C (x :: xs) (y :: ys)):VR C x y∧VRL C xs ys:=by
 simp only [VRL] at h
 obtain ⟨_,_,e,h1,h2⟩:=h
 injection e with e1 e2
 subst e1 e2
 exact ⟨h1,h2⟩
theorem VRL.of_get {C:Ctx}:∀ {xs:List AV} {vs:List Value},xs.length = vs.length→(∀ (i:Nat) (x:AV) (y:Value),xs[i]? = some x→vs[i]? = some y→VR C x y)→VRL C xs vs
 | [],vs,hl,_=>by cases vs with
  | nil=>exact .nil
  | cons y ys=>simp at hl
 | x :: xs,vs,hl,h=>by
  cases vs with
  | nil=>simp at hl
  | cons y ys=>
   exact .cons (h 0 x y rfl rfl) (VRL.of_get (by simpa using hl) fun i x' y' hx hy=>h (i + 1) x' y' (by simpa using hx) (by simpa using hy))
theorem VRL.append {C:Ctx} {xs xs':List AV} {vs vs':List Value} (h:VRL C xs vs) (h':VRL C xs' vs'):VRL C (xs ++ xs') (vs ++ vs'):=by
 induction xs generalizing vs with
 | nil=>simp only [VRL] at h; subst h; simpa using h'
 | cons x xs ih=>
  simp only [VRL] at h
  obtain ⟨y,ys,rfl,h1,h2⟩:=h
  exact .cons h1 (ih h2)
theorem VRL.take {C:Ctx} {xs:List AV} {vs:List Value} (n:Nat) (h:VRL C xs vs):VRL C (xs.take n) (vs.take n):=by
 induction xs generalizing vs n with
 | nil=>simp only [VRL] at h; subst h; simpa using VRL.nil
 | cons x xs ih=>
  simp only [VRL] at h
  obtain ⟨y,ys,rfl,h1,h2⟩:=h
  cases n with
  | zero=>simpa using VRL.nil
  | succ n=>exact .cons h1 (ih n h2)
theorem VRL.drop {C:Ctx} {xs:List AV} {vs:List Value} (n:Nat) (h:VRL C xs vs):VRL C (xs.drop n) (vs.drop n):=by
 induction xs generalizing vs n with
 | nil=>simp only [VRL] at h; subst h; simpa using VRL.nil
 | cons x xs ih=>
  simp only [VRL] at h
  obtain ⟨y,ys,rfl,h1,h2⟩:=h
  cases n with
  | zero=>exact .cons h1 h2
  | succ n=>simpa using ih n h2
theorem VRL.set {C:Ctx} {xs:List AV} {vs:List Value} (i:Nat) {x:AV} {v:Value} (h:VRL C xs vs) (hx:VR C x v):VRL C (xs.set i x) (vs.set i v):=by
 induction xs generalizing vs i with
 | nil=>simp only [VRL] at h; subst h; simpa using VRL.nil
 | cons x xs ih=>
  simp only [VRL] at h
  obtain ⟨y,ys,rfl,h1,h2⟩:=h
  cases i with
  | zero=>exact .cons hx h2
  | succ i=>exact .cons h1 (ih i h2)
theorem VRL.replicate {C:Ctx} (n:Nat) {x:AV} {v:Value} (hx:VR C x v):VRL C (List.replicate n x) (List.replicate n v):=by
 induction n with
 | zero=>exact .nil
 | succ n ih=>exact .cons hx ih
theorem VRL.poison {C:Ctx} {xs:List AV} {vs:List Value} (i:Nat) (h:VRL C xs vs):VRL C (xs.set i .poison) vs:=by
 induction xs generalizing vs i with
 | nil=>simpa using h
 | cons x xs ih=>
  simp only [VRL] at h
  obtain ⟨y,ys,rfl,h1,h2⟩:=h
  cases i with
  | zero=>exact .cons (by simp only [VR]) h2
  | succ i=>exact .cons h1 (ih i h2)
theorem VR.vw {C:Ctx} {sz:Nat} {xs:List AV} {v:Value} (h:VR C (.vw sz xs) v):(v = .slice none 0 0∧xs = []) ∨ VR C (.sl sz xs none) v:=by
 simp only [VR] at h ⊢
 rcases h with h | ⟨a,c,vs,rfl,hc,hs,hok,hh,hx⟩
 ·exact .inl h
 ·exact .inr ⟨a,c,vs,rfl,hc,(fun k hk=>by cases hk),hs,hok,hh,hx⟩
theorem VR.to_vw {C:Ctx} {sz:Nat} {xs:List AV} {c:Option Nat} {v:Value} (h:VR C (.sl sz xs c) v):VR C (.vw sz xs) v:=by
 simp only [VR] at h ⊢
 obtain ⟨a,c,vs,rfl,hc,_,hs,hok,hh,hx⟩:=h
 exact .inr ⟨a,c,vs,rfl,hc,hs,hok,hh,hx⟩
theorem VR.nil_vw {C:Ctx} {sz:Nat} {v:Value} (h:VR C .nils v):VR C (.vw sz []) v:=by
 simp only [VR] at h ⊢
 exact .inl ⟨h,trivial⟩
inductive ABlk where
 | row (g sz:Nat) (xs:List AV)
 | map (es:List (AV×AV))
 | loop (st:LoopState) (pend:Option Code) (env:List AV) (ps:Array Tmp) (assign body:Code)
 | defr
 | dead
 | resv
 deriving Inhabited
def BR (C:Ctx) (b:Nat):ABlk→Prop
 | .row g sz xs=>0 < sz∧∃ l arr e vs,C.ρ b = some l∧l.g = g∧l.sz = sz∧C.w.heap[l.cb]? = some (.cells arr e (0,0))∧arr.size = l.size ∧
   l.d + xs.length * sz≤l.size∧HoldsRow C.w ⟨l.cb,l.d,none⟩ sz vs∧VRL C xs vs
 | .map es=>∃ l arr clock,C.ρ b = some l∧l.g = 0∧C.w.heap[l.cb]? = some (.map arr clock)∧VRL C (es.map (·.1)) (arr.toList.map (·.key))∧VRL C (es.map (·.2)) (arr.toList.map (·.val)) ∧
   (arr.toList.map (·.born)).Pairwise (· < ·)∧(∀ e ∈ arr,e.born < clock)
 | .loop st pend env ps assign body=>∃ l r,C.ρ b = some l∧l.g = 0∧C.w.heap[l.cb]? = some (.loop r)∧r.state = st∧r.pending = pend∧VRL C env r.tmps.toList∧r.params = ps∧r.assign = assign∧r.body = body
 | .defr=>∃ l,C.ρ b = some l∧l.g = 0∧C.w.heap[l.cb]? = some (.deferred (some []))
 | .dead=>C.ρ b = none
 | .resv=>C.ρ b = none
structure SR (C:Ctx) (h:List ABlk):Prop where
 len:h.length = C.n
 blk:∀ b x,h[b]? = some x→BR C b x
 inj:∀ b b' l l',b < C.n→b' < C.n→C.ρ b = some l→C.ρ b' = some l'→l.cb = l'.cb→b = b'
 forb:∀ blk,C.forb blk→blk < C.w.heap.size∧¬ C.owned blk
 res:∀ b,C.res b↔h[b]? = some .resv
theorem SR.born {C:Ctx} {h:List ABlk} (hs:SR C h) {b:Nat} {l:Loc} (hb:b < C.n) (hl:C.ρ b = some l):C.born b:=
 ⟨hb,fun hr=>by have:=hs.blk b _ ((hs.res b).1 hr); simp only [BR] at this; rw [this] at hl; cases hl⟩
theorem SR.born_live {C:Ctx} {h:List ABlk} (hs:SR C h) {b:Nat} {x:ABlk} (hb:h[b]? = some x) (hx:x ≠ .resv):C.born b:=
 ⟨by rw [← hs.len]; exact (List.getElem?_eq_some_iff.1 hb).1,fun hr=>by rw [(hs.res b).1 hr] at hb; injection hb with hb; exact hx hb.symm⟩
end Go.AL
namespace Go.AL
open Go
def ofScalar:Value→AV
 | .bool b=>.bool b
 | .int k n=>.int k n
 | .string s=>.str s
 | .pointer none=>.nilp
 | .slice none 0 0=>.nils
 | .map none=>.nilm
 | .nilFunc=>.nilf
 | .nilIface=>.nili
 | _=>.poison
def ofConst:Value→AV
 | .agg cs=>.agg (cs.toList.map ofScalar)
 | v=>ofScalar v
theorem VR.poison {C:Ctx} {v:Value}:VR C .poison v:=by simp only [VR]
theorem VR.ofScalar {C:Ctx} (v:Value):VR C (ofScalar v) v:=by
 unfold AL.ofScalar
 split <;> simp only [VR]
theorem VRL.ofScalar {C:Ctx}:∀ (vs:List Value),VRL C (vs.map AL.ofScalar) vs
 | []=>.nil
 | v :: vs=>.cons (VR.ofScalar v) (VRL.ofScalar vs)
theorem VR.ofConst {C:Ctx} (v:Value):VR C (ofConst v) v:=by
 unfold AL.ofConst
 split
 ·simp only [VR]; exact ⟨_,rfl,VRL.ofScalar _⟩
 ·exact VR.ofScalar _
def aval (env:List AV):Operand→AV
 | .tmp t=>env.getD t .poison
 | .const v=>ofConst v
 | .global _=>.poison
 | .func f=>.func (.func f) [] []
theorem VRL.getD {C:Ctx} {env:List AV} {tmps:Array Value} (h:VRL C env tmps.toList) (t:Nat):VR C (env.getD t .poison) (tmps.getD t undef):=by
 rcases hx:env[t]? with _ | x
 ·simp [List.getD,hx]; exact VR.poison
 ·obtain ⟨y,hy,hv⟩:=h.get hx
  have:tmps.getD t undef = y:=by
   simp at hy
   simp [Array.getD_eq_getD_getElem?,hy]
  rw [this]
  simpa [List.getD,hx] using hv
theorem VR.aval {C:Ctx} {env:List AV} {a:Act} (h:VRL C env a.tmps.toList) (x:Operand):VR C (aval env x) (a.eval x):=by
 cases x with
 | tmp t=>exact h.getD t
 | const v=>exact VR.ofConst v
 | global g=>exact VR.poison
 | func f=>simp only [AL.aval,Act.eval,VR]; exact ⟨#[],#[],rfl,.nil,.nil⟩
theorem VRL.map {C:Ctx} {α:Type} {f:α→AV} {g:α→Value} (l:List α) (h:∀ x,VR C (f x) (g x)):VRL C (l.map f) (l.map g):=by
 induction l with
 | nil=>exact .nil
 | cons x l ih=>exact .cons (h x) ih
def isAggT (P:Program) (t:TypeId):Option Bool:=
 match P.underlying t with
 | some (.struct _) | some (.array ..)=>some true
 | some _=>some false
 | none=>none
def sizeT (P:Program) (t:TypeId):Option Nat:=(P.info? t).map (·.size)
def zeroT (P:Program) (t:TypeId):Option AV:=((P.info? t).bind (·.zero)).map ofConst
variable {P:Program} {w:World}
theorem run_underlying_ok {t:TypeId} {d:TypeDesc} (h:P.underlying t = some d):(underlying t).run P w = .ok d w:=by
 simp [underlying,h]
theorem run_typeInfo_ok {t:TypeId} {i:TypeInfo} (h:P.info? t = some i):(typeInfo t).run P w = .ok i w:=by
 simp [typeInfo,h]
theorem run_sizeOf_ok {t:TypeId} {n:Nat} (h:sizeT P t = some n):(sizeOf t).run P w = .ok n w:=by
 unfold sizeT at h
 cases hi:P.info? t with
 | none=>simp [hi] at h
 | some i=>simp [hi] at h; simp [sizeOf,run_typeInfo_ok hi,h]
theorem run_isAgg_ok {t:TypeId} {b:Bool} (h:isAggT P t = some b):(isAgg t).run P w = .ok b w:=by
 unfold isAggT at h
 cases hi:P.underlying t with
 | none=>simp [hi] at h
 | some d=>
  cases d <;> simp_all [isAgg,run_underlying_ok hi]
theorem run_zeroValue_ok {t:TypeId} {z:AV} (h:zeroT P t = some z):∃ v,(P.info? t).bind (·.zero) = some v∧(zeroValue t).run P w = .ok v w∧∀ C,VR C z v:=by
 unfold zeroT at h
 cases hi:P.info? t with
 | none=>simp [hi] at h
 | some i=>
  cases hz:i.zero with
  | none=>simp [hi,hz] at h
  | some v=>
   simp [hi,hz] at h
   refine ⟨v,by simp [hz],by simp [zeroValue,run_typeInfo_ok hi,hz],fun C=>?_⟩
   subst h
   exact VR.ofConst v
theorem VR.poison_of_agg {C:Ctx} {x:AV} {c:Array Value} (h:VR C x (.agg c)) (hna:∀ cs,x = .agg cs→False):x = .poison:=by
 cases x <;> simp only [VR] at h
 case agg cs=>exact (hna cs rfl).elim
 case poison=>rfl
 case vw h=>
  rcases h with h | ⟨_,_,_,h,_⟩
  ·cases h.1
  ·cases h
 case ptr=>obtain ⟨_,_,h,_⟩:=h; cases h
 case hsl=>obtain ⟨_,_,_,h,_⟩:=h; cases h
 case map=>obtain ⟨_,_,h,_⟩:=h; cases h
 case yield=>obtain ⟨_,_,h,_⟩:=h; cases h
 case rptr=>obtain ⟨_,_,h,_⟩:=h; cases h
 case sl=>obtain ⟨_,_,_,h,_⟩:=h; cases h
 case func=>obtain ⟨_,_,h,_⟩:=h; cases h
 case iface=>obtain ⟨_,h,_⟩:=h; cases h
 case tup=>obtain ⟨_,h,_⟩:=h; cases h
 all_goals cases h
theorem VR.any_of_agg {C:Ctx} {x:AV} {c:Array Value} (h:VR C x (.agg c)) (hna:∀ cs,x = .agg cs→False) {v:Value}:VR C x v:=by
 rw [h.poison_of_agg hna]; exact VR.poison
theorem run_load_cell {a:Addr} {v:Value} (h:w.cell? a = some v):(load a).run P w = .ok v w:=by simp [h]
theorem run_loadCellsFrom {a:Addr} (vs:List Value):∀ (i:Nat) (acc:Array Value),(∀ j (h:j < vs.length),w.cell? (a.add (i + j)) = some vs[j]) →
  (loadCellsFrom a i vs.length acc).run P w = .ok (acc ++ vs.toArray) w:=by
 induction vs with
 | nil=>intro i acc _; simp [loadCellsFrom]
 | cons v vs ih=>
  intro i acc h
  have h0:=h 0 (by simp)
  simp only [Nat.add_zero,List.getElem_cons_zero] at h0
  simp only [List.length_cons,loadCellsFrom,Sem.run_bind,run_load_cell h0,Result.andThen_ok]
  rw [ih (i + 1) (acc.push v) (fun j hj=>by
   have:=h (j + 1) (by simp; omega)
   simpa [Nat.add_assoc,Nat.add_comm 1 j] using this)]
  simp
theorem add_plain {a:Addr} (h:a.spot = none) (n:Nat):a.add n = ⟨a.block,a.off + n,none⟩:=by
 unfold Addr.add
 split
 ·subst_vars; cases a; simp_all
 ·simp [h]
def AV.isAgg:AV→Bool
 | .agg _=>true
 | _=>false
def getPart (P:Program) (t:TypeId) (x:AV) (o:Nat):Option AV:=
 match isAggT P t,sizeT P t with
 | some true,some s=>match x with
  | .agg cs=>if o + s≤cs.length then some (.agg ((cs.drop o).take s)) else none
  | _=>none
 | some false,some _=>match x with
  | .agg cs=>(cs[o]?).bind fun v=>if v.isAgg then none else some v
  | .tup _=>none
  | x=>if o = 0 then some x else none
 | _,_=>none
theorem getPart_load {C:Ctx} {t:TypeId} {x v:AV} {o:Nat} {y:Value} {a:Addr} (hg:getPart P t x o = some v) (hx:VR C x y)
  (hh:Holds w a y) (hpos:0 < y.cells.size):∃ v',(loadVar t ⟨a.block,a.off + o,none⟩).run P w = .ok v' w∧VR C v v':=by
 unfold getPart at hg
 split at hg
 ·rename_i s h1 h2
  split at hg
  ·rename_i cs
   simp only [VR] at hx
   obtain ⟨arr,rfl,hl⟩:=hx
   split at hg
   ·rename_i hle
    injection hg with hg; subst hg
    have hlen:=hl.length
    simp only [Array.length_toList] at hlen
    have hr:∀ j (h:j < ((arr.toList.drop o).take s).length),w.cell? ((⟨a.block,a.off + o,none⟩:Addr).add (0 + j)) = some ((arr.toList.drop o).take s)[j]:=by
     intro j hj
     have hj':j < s:=by simp at hj; omega
     rw [add_plain rfl]
     have:=hh (o + j) (by simp [Value.cells]; omega)
     simp only [Value.cells] at this
     simp [Nat.add_assoc,this]
    have hrun:=run_loadCellsFrom (P:=P) (w:=w) (a:=⟨a.block,a.off + o,none⟩) ((arr.toList.drop o).take s) 0 #[] hr
    have hls:((arr.toList.drop o).take s).length = s:=by simp; omega
    rw [hls] at hrun
    refine ⟨.agg ((arr.toList.drop o).take s).toArray,?_,?_⟩
    ·simp only [loadVar,Sem.run_bind,run_isAgg_ok h1,Result.andThen_ok,if_true,run_sizeOf_ok h2,loadCells]
     simp [hrun]
    ·simp only [VR]
     exact ⟨_,rfl,by simpa using (hl.drop o).take s⟩
   ·cases hg
  ·cases hg
 ·rename_i s h1 h2
  split at hg
  ·rename_i cs
   simp only [VR] at hx
   obtain ⟨arr,rfl,hl⟩:=hx
   obtain ⟨v0,hg0,hg⟩:=Option.bind_eq_some_iff.1 hg
   have hv0:v0 = v:=by split at hg <;> simp_all
   subst hv0
   obtain ⟨z,hz,hv⟩:=hl.get hg0
   refine ⟨z,?_,hv⟩
   have hlt:o < arr.size:=by
    rcases Nat.lt_or_ge o arr.size with h | h
    ·exact h
    ·simp [List.getElem?_eq_none (l:=arr.toList) (by simpa using h)] at hz
   have:=hh o (by simpa [Value.cells] using hlt)
   simp only [Value.cells] at this
   have e:arr[o] = z:=by simpa [hlt] using hz
   simp [loadVar,run_isAgg_ok h1,this,e]
  ·cases hg
  ·rename_i hna hnt
   split at hg
   ·rename_i h0
    injection hg with hg; subst hg; subst h0
    have:=hh 0 hpos
    have h0:VR C x y.cells[0]:=by
     cases y with
     | agg c=>exact hx.any_of_agg hna
     | _=>exact hx
    exact ⟨_,by simp only [loadVar,Sem.run_bind,run_isAgg_ok h1,Result.andThen_ok]; exact run_load_cell this,h0⟩
   ·cases hg
 ·cases hg
end Go.AL
namespace Go.AL
open Go
variable {P:Program}
def elemAt (h:List ABlk) (b g i:Nat):Option AV:=
 match h[b]? with
 | some (.row g' _ xs)=>if g = g' then xs[i]? else none
 | _=>none
def rowAt (h:List ABlk) (b g:Nat):Option (Nat×List AV):=
 match h[b]? with
 | some (.row g' sz xs)=>if g = g' then some (sz,xs) else none
 | _=>none
theorem rowAt_spec {C:Ctx} {h:List ABlk} (hs:SR C h) {b g sz:Nat} {xs:List AV} (hr:rowAt h b g = some (sz,xs)) :
  h[b]? = some (.row g sz xs)∧0 < sz∧∃ l arr e vs,C.ρ b = some l∧l.g = g∧l.sz = sz∧C.w.heap[l.cb]? = some (.cells arr e (0,0))∧arr.size = l.size ∧
   l.d + xs.length * sz≤l.size∧HoldsRow C.w ⟨l.cb,l.d,none⟩ sz vs∧VRL C xs vs:=by
 unfold rowAt at hr
 split at hr
 ·rename_i g' sz' xs' hb
  split at hr
  ·rename_i hg
   injection hr with hr
   injection hr with h1 h2
   subst h1 h2 hg
   exact ⟨hb,hs.blk b _ hb⟩
  ·cases hr
 ·cases hr
theorem VR.ptr_live {C:Ctx} {h:List ABlk} (hs:SR C h) {b g i o sz:Nat} {xs:List AV} (hr:rowAt h b g = some (sz,xs)) {v:Value} (hv:VR C (.ptr b g i o) v) :
  ∃ l,C.ρ b = some l∧l.g = g∧l.sz = sz∧v = .pointer (some ⟨l.cb,l.d + i * sz + o,none⟩):=by
 obtain ⟨hb,hpos,l,arr,e,vs,h1,h2,h3,_⟩:=rowAt_spec hs hr
 simp only [VR] at hv
 obtain ⟨_,a,rfl,hv⟩:=hv
 exact ⟨l,h1,h2,h3,by rw [← h3]; rw [(hv l h1).2 h2.symm]⟩
theorem row_elem {C:Ctx} {h:List ABlk} (hs:SR C h) {b g i sz:Nat} {xs:List AV} {x:AV} (hr:rowAt h b g = some (sz,xs)) (hx:xs[i]? = some x) :
  ∃ l y,C.ρ b = some l∧l.g = g∧l.sz = sz∧VR C x y∧y.cells.size = sz∧0 < sz∧Holds C.w ⟨l.cb,l.d + i * sz,none⟩ y:=by
 obtain ⟨hb,hpos,l,arr,e,vs,h1,h2,h3,h4,h5,h6,h7,h8⟩:=rowAt_spec hs hr
 obtain ⟨y,hy,hv⟩:=h8.get hx
 have hlt:i < vs.length:=(List.getElem?_eq_some_iff.1 hy).1
 have:=h7 i hlt
 have e:vs[i] = y:=by simpa [hlt] using hy
 rw [e] at this
 exact ⟨l,y,h1,h2,h3,hv,this.1,hpos,this.2⟩
def loadV (P:Program) (h:List ABlk) (t:TypeId):AV→Option AV
 | .ptr b g i o=>match rowAt h b g with
  | some (_,xs)=>(xs[i]?).bind fun x=>getPart P t x o
  | none=>none
 | .rptr x=>getPart P t x 0
 | _=>none
theorem addr_eta {a:Addr} (h:a.spot = none):(⟨a.block,a.off + 0,none⟩:Addr) = a:=by cases a; simp_all
theorem loadV_sound {C:Ctx} {h:List ABlk} (hs:SR C h) {t:TypeId} {x v:AV} (hl:loadV P h t x = some v) {y:Value} (hx:VR C x y) :
  ∃ v',(Instr.loadAt t y).run P C.w = .ok v' C.w∧VR C v v':=by
 unfold loadV at hl
 split at hl
 ·rename_i b g i o
  split at hl
  ·rename_i sz xs hr
   cases hxi:xs[i]? with
   | none=>simp [hxi] at hl
   | some z=>
    simp [hxi] at hl
    obtain ⟨l,z',h1,h2,h3,hz,hsz,hpos,hh⟩:=row_elem hs hr hxi
    obtain ⟨l',h1',h2',h3',rfl⟩:=hx.ptr_live hs hr
    rw [h1] at h1'; injection h1' with h1'; subst h1'
    obtain ⟨v',hrun,hv'⟩:=getPart_load (P:=P) (w:=C.w) hl hz hh (by omega)
    exact ⟨v',by simpa [Instr.loadAt,Instr.sureAddr] using hrun,hv'⟩
  ·cases hl
 ·rename_i x
  simp only [VR] at hx
  obtain ⟨a,z,rfl,hsp,hok,hpos,hh,hz⟩:=hx
  obtain ⟨v',hrun,hv'⟩:=getPart_load (P:=P) (w:=C.w) (a:=a) hl hz hh hpos
  refine ⟨v',?_,hv'⟩
  rw [addr_eta hsp] at hrun
  simpa [Instr.loadAt,Instr.sureAddr] using hrun
 ·cases hl
def fieldT (P:Program) (s:TypeId) (f:Nat):Option Field:=
 match P.underlying s with
 | some (.struct fields)=>fields[f]?
 | _=>none
theorem run_fieldPlace {w:World} {a:Addr} {f:Field} {n:Nat} (h:sizeT P f.type = some n) (hn:n ≠ 0):(fieldPlace a f).run P w = .ok (a.add f.offset) w:=by
 simp [fieldPlace,run_sizeOf_ok h,hn]
theorem getPart_holds {C:Ctx} {w:World} {t:TypeId} {x v:AV} {o:Nat} {y:Value} {a:Addr} (hg:getPart P t x o = some v) (hs:sizeT P t ≠ some 0) (hx:VR C x y) (hh:Holds w a y) (hpos:0 < y.cells.size) :
  ∃ v',Holds w ⟨a.block,a.off + o,none⟩ v'∧0 < v'.cells.size∧VR C v v':=by
 unfold getPart at hg
 split at hg
 ·rename_i s h1 h2
  split at hg
  ·rename_i cs
   simp only [VR] at hx
   obtain ⟨arr,rfl,hl⟩:=hx
   split at hg
   ·rename_i hle
    injection hg with hg; subst hg
    have hlen:=hl.length
    simp only [Array.length_toList] at hlen
    have hs0:s ≠ 0:=fun e=>hs (by rw [h2,e])
    refine ⟨.agg ((arr.toList.drop o).take s).toArray,?_,?_,?_⟩
    ·intro j hj
     have hj':j < s:=by simp [Value.cells] at hj; omega
     have:=hh (o + j) (by simp [Value.cells]; omega)
     simp only [Value.cells] at this
     simp [Value.cells,Nat.add_assoc,this]
    ·simp [Value.cells]; omega
    ·simp only [VR]
     exact ⟨_,rfl,by simpa using (hl.drop o).take s⟩
   ·cases hg
  ·cases hg
 ·rename_i s h1 h2
  split at hg
  ·rename_i cs
   simp only [VR] at hx
   obtain ⟨arr,rfl,hl⟩:=hx
   obtain ⟨v0,hg0,hg⟩:=Option.bind_eq_some_iff.1 hg
   have hv0:v0 = v∧v0.isAgg = false:=by split at hg <;> simp_all
   obtain ⟨hv0,hna⟩:=hv0
   subst hv0
   obtain ⟨z,hz,hv⟩:=hl.get hg0
   have hlt:o < arr.size:=by
    rcases Nat.lt_or_ge o arr.size with h | h
    ·exact h
    ·simp [List.getElem?_eq_none (l:=arr.toList) (by simpa using h)] at hz
   have:=hh o (by simpa [Value.cells] using hlt)
   simp only [Value.cells] at this
   have e:arr[o] = z:=by simpa [hlt] using hz
   rw [e] at this
   by_cases hz:∃ c,z = .agg c
   ·obtain ⟨c,rfl⟩:=hz
    refine ⟨.agg #[.agg c],?_,by simp [Value.cells],hv.any_of_agg (fun cs hcs=>by subst hcs; simp [AV.isAgg] at hna)⟩
    intro j hj
    have hj0:j = 0:=by simp [Value.cells] at hj; omega
    subst hj0
    simpa [Value.cells] using this
   ·have hc:z.cells = #[z]:=by cases z <;> simp_all [Value.cells]
    refine ⟨z,?_,by simp [hc],hv⟩
    intro j hj
    have hj0:j = 0:=by simp [hc] at hj; omega
    subst hj0
    simpa [hc] using this
  ·cases hg
  ·rename_i hna hnt
   split at hg
   ·rename_i h0
    injection hg with hg; subst hg; subst h0
    exact ⟨y,by intro j hj; simpa using hh j hj,hpos,hx⟩
   ·cases hg
 ·cases hg
end Go.AL
namespace Go.AL
open Go
variable {P:Program}
def intOp (op:BinOp) (k:IntKind) (a b:Int):Option AV:=
 match op with
 | .add=>some (.int k (k.wrap (a + b)))
 | .sub=>some (.int k (k.wrap (a - b)))
 | .mul=>some (.int k (k.wrap (a * b)))
 | .quo=>if b = 0 then none else some (.int k (k.wrap (a.tdiv b)))
 | .rem=>if b = 0 then none else some (.int k (a.tmod b))
 | .and=>some (.int k (k.wrap ((BitVec.ofInt k.bits a &&& BitVec.ofInt k.bits b).toNat:Int)))
 | .or=>some (.int k (k.wrap ((BitVec.ofInt k.bits a ||| BitVec.ofInt k.bits b).toNat:Int)))
 | .xor=>some (.int k (k.wrap ((BitVec.ofInt k.bits a ^^^ BitVec.ofInt k.bits b).toNat:Int)))
 | .andNot=>some (.int k (k.wrap ((BitVec.ofInt k.bits a &&& ~~~ BitVec.ofInt k.bits b).toNat:Int)))
 | .eql=>some (.bool (a == b))
 | .neq=>some (.bool (a != b))
 | .lss=>some (.bool (decide (a < b)))
 | .leq=>some (.bool (decide (a≤b)))
 | .gtr=>some (.bool (decide (b < a)))
 | .geq=>some (.bool (decide (b≤a)))
 | _=>none
def shiftOp (op:BinOp) (k:IntKind) (a b:Int):Option AV:=
 if b < 0 then none else
 match op with
 | .shl=>some (.int k (k.wrap (a * 2 ^ (min b.toNat k.bits))))
 | .shr=>some (.int k (a.fdiv (2 ^ (min b.toNat k.bits))))
 | _=>none
def strOp (op:BinOp) (a b:ByteArray):Option AV:=
 match op with
 | .add=>if ((a.size + b.size:Nat):Int) > IntKind.i64.max then none else some (.str (a ++ b))
 | .eql=>some (.bool (a.toList == b.toList))
 | .neq=>some (.bool (!(a.toList == b.toList)))
 | .lss=>some (.bool (Op.bytesLess a.toList b.toList))
 | .leq=>some (.bool (Op.bytesLess a.toList b.toList || a.toList == b.toList))
 | .gtr=>some (.bool (!(Op.bytesLess a.toList b.toList || a.toList == b.toList)))
 | .geq=>some (.bool (!Op.bytesLess a.toList b.toList))
 | _=>none
def isShift:BinOp→Bool
 | .shl | .shr=>true
 | _=>false
theorem run_intOp {w:World} {op:BinOp} {k:IntKind} {a b:Int} {t:TypeId} {v:AV} (hs:isShift op = false) (h:intOp op k a b = some v) :
  ∃ v',(binOp op t (.int k a) (.int k b)).run P w = .ok v' w∧∀ C,VR C v v':=by
 cases op <;> simp only [intOp,isShift] at h hs <;> (try cases hs) <;> (try cases h)
 case quo=>split at h <;> cases h; rename_i hb; exact ⟨_,by simp [binOp,Op.intDiv,hb]; rfl,fun C=>by simp only [VR]⟩
 case rem=>split at h <;> cases h; rename_i hb; exact ⟨_,by simp [binOp,Op.intDiv,hb]; rfl,fun C=>by simp only [VR]⟩
 all_goals exact ⟨_,by simp only [binOp,Op.intArith,Op.intBits,Op.intCmp,ne_eq,not_true,if_false,Sem.run_pure] <;> rfl,fun C=>by simp only [VR] <;> rfl⟩
theorem run_shiftOp {w:World} {op:BinOp} {k k':IntKind} {a b:Int} {t:TypeId} {v:AV} (h:shiftOp op k a b = some v) :
  ∃ v',(binOp op t (.int k a) (.int k' b)).run P w = .ok v' w∧∀ C,VR C v v':=by
 unfold shiftOp at h
 split at h
 ·cases h
 ·rename_i hb
  cases op <;> simp only at h <;> cases h
  all_goals exact ⟨_,by simp [binOp,Op.shift,hb] <;> rfl,fun C=>by simp only [VR]⟩
theorem run_strOp {w:World} {op:BinOp} {a b:ByteArray} {t:TypeId} {v:AV} (h:strOp op a b = some v) :
  ∃ v',(binOp op t (.string a) (.string b)).run P w = .ok v' w∧∀ C,VR C v v':=by
 cases op <;> simp only [strOp] at h <;> (try cases h)
 case add=>split at h <;> cases h; rename_i hb; exact ⟨.string (a ++ b),by simp only [binOp,Op.stringOp,if_neg hb,Sem.run_pure],fun C=>by simp only [VR]⟩
 all_goals exact ⟨_,by simp only [binOp,Op.stringOp,Sem.run_pure] <;> rfl,fun C=>by simp only [VR]⟩
def partV (P:Program) (t:TypeId) (cs:List AV) (off:Nat):Option AV:=
 match isAggT P t,sizeT P t with
 | some true,some s=>some (.agg ((cs.drop off).take s))
 | some false,some _=>cs[off]?
 | _,_=>none
theorem partV_sound {C:Ctx} {w:World} {t:TypeId} {cs:List AV} {off:Nat} {v:AV} {arr:Array Value} (h:partV P t cs off = some v) (hl:VRL C cs arr.toList) :
  ∃ v',(part t arr off).run P w = .ok v' w∧VR C v v':=by
 unfold partV at h
 split at h
 ·rename_i s h1 h2
  injection h with h; subst h
  refine ⟨.agg (arr.extract off (off + s)),by simp [part,run_isAgg_ok h1,run_sizeOf_ok h2],?_⟩
  simp only [VR]
  refine ⟨_,rfl,?_⟩
  have:=(hl.drop off).take s
  have e:(arr.extract off (off + s)).toList = (arr.toList.drop off).take s:=by
   simp [Array.toList_extract,List.extract_eq_take_drop]
  rw [e]; exact this
 ·rename_i s h1 h2
  obtain ⟨z,hz,hv⟩:=hl.get h
  refine ⟨z,?_,hv⟩
  have:arr[off]? = some z:=by simpa using hz
  simp [part,run_isAgg_ok h1,this]
 ·cases h
def eqFieldsW (P:Program) (f:TypeId→AV→AV→Option Bool) (xs ys:List AV):List Field→Option Bool
 | []=>some true
 | fd :: fs=>
  if fd.name ≠ "_" then
   match partV P fd.type xs fd.offset,partV P fd.type ys fd.offset with
   | some a,some b=>match f fd.type a b with
    | some true=>eqFieldsW P f xs ys fs
    | some false=>some false
    | none=>none
   | _,_=>none
  else eqFieldsW P f xs ys fs
def eqElemsW (P:Program) (f:AV→AV→Option Bool) (e:TypeId) (n:Nat) (xs ys:List AV):Nat→Nat→Option Bool
 | 0,_=>some true
 | len + 1,i=>
   match partV P e xs (i * n),partV P e ys (i * n) with
   | some a,some b=>match f a b with
    | some true=>eqElemsW P f e n xs ys len (i + 1)
    | some false=>some false
    | none=>none
   | _,_=>none
def eqIn (P:Program):Nat→TypeId→AV→AV→Option Bool
 | 0,_,_,_=>none
 | d + 1,t,x,y=>
  match P.underlying t with
  | some .bool=>match x,y with
   | .bool a,.bool b=>some (a == b)
   | _,_=>none
  | some (.int _)=>match x,y with
   | .int k a,.int k' b=>if k = k' then some (a == b) else none
   | _,_=>none
  | some .string=>match x,y with
   | .str a,.str b=>some (a.toList == b.toList)
   | _,_=>none
  | some (.struct fs)=>match x,y with
   | .agg xs,.agg ys=>if P.stoodInHeld t then none else eqFieldsW P (fun t a b=>eqIn P d t a b) xs ys fs.toList
   | _,_=>none
  | some (.array len e)=>match x,y with
   | .agg xs,.agg ys=>match sizeT P e with
    | some n=>eqElemsW P (fun a b=>eqIn P d e a b) e n xs ys len 0
    | none=>none
   | _,_=>none
  | _=>none
abbrev eqFieldsV (P:Program) (d:Nat) (xs ys:List AV) (fs:List Field):Option Bool:=eqFieldsW P (fun t a b=>eqIn P d t a b) xs ys fs
abbrev eqElemsV (P:Program) (d:Nat) (e:TypeId) (n:Nat) (xs ys:List AV) (len i:Nat):Option Bool:=eqElemsW P (fun a b=>eqIn P d e a b) e n xs ys len i
theorem run_eqElems {C:Ctx} {w:World} {d:Nat} {e:TypeId} {n:Nat} {xs ys:List AV} {ax ay:Array Value} (hx:VRL C xs ax.toList) (hy:VRL C ys ay.toList)
  (hn:sizeT P e = some n)
  (ih:∀ (x y:AV) (b:Bool) (xv yv:Value),eqIn P d e x y = some b→VR C x xv→VR C y yv→(Op.equalIn d e xv yv).run P w = .ok b w) (len:Nat) :
  ∀ (i:Nat) (b:Bool),eqElemsV P d e n xs ys len i = some b →
  ((forIn (List.range' i len) ((none,()):Option Bool×PUnit) fun i (_:Option Bool×PUnit)=>(do
    if !(← Op.equalIn d e (← part e ax (i * n)) (← part e ay (i * n))) then pure (ForInStep.done (some false,())) else pure (ForInStep.yield (none,())):Sem _)).run P w) =
   .ok (if b then (none,()) else (some false,())) w:=by
 induction len with
 | zero=>intro i b h; simp only [eqElemsV,eqElemsW] at h; injection h with h; subst h; simp
 | succ len ihl=>
  intro i b h
  simp only [eqElemsV,eqElemsW] at h
  split at h
  ·rename_i a c ha hc
   obtain ⟨av,hra,hva⟩:=partV_sound (w:=w) ha hx
   obtain ⟨cv,hrc,hvc⟩:=partV_sound (w:=w) hc hy
   split at h
   ·rename_i heq
    simp only [List.range'_succ,List.forIn_cons,Sem.run_bind,hra,hrc,Result.andThen_ok,ih _ _ _ _ _ heq hva hvc,Bool.not_true,Bool.false_eq_true,if_false,Sem.run_pure]
    exact ihl (i + 1) b h
   ·rename_i heq
    injection h with h; subst h
    simp only [List.range'_succ,List.forIn_cons,Sem.run_bind,hra,hrc,Result.andThen_ok,ih _ _ _ _ _ heq hva hvc,Bool.not_false,if_true,Sem.run_pure,Bool.false_eq_true,if_false]
   ·cases h
  ·cases h
theorem run_eqFields {C:Ctx} {w:World} {d:Nat} {xs ys:List AV} {ax ay:Array Value} (hx:VRL C xs ax.toList) (hy:VRL C ys ay.toList)
  (ih:∀ (t:TypeId) (x y:AV) (b:Bool) (xv yv:Value),eqIn P d t x y = some b→VR C x xv→VR C y yv→(Op.equalIn d t xv yv).run P w = .ok b w) :
  ∀ (fs:List Field) (b:Bool),eqFieldsV P d xs ys fs = some b→(Op.eqFields d ax ay fs).run P w = .ok b w:=by
 intro fs
 induction fs with
 | nil=>intro b h; simp only [eqFieldsV,eqFieldsW] at h; injection h with h; subst h; simp [Op.eqFields]
 | cons f fs ihf=>
  intro b h
  simp only [eqFieldsV,eqFieldsW] at h
  simp only [Op.eqFields]
  split at h
  ·rename_i hne
   rw [if_pos hne]
   split at h
   ·rename_i a c ha hc
    obtain ⟨av,hra,hva⟩:=partV_sound (w:=w) ha hx
    obtain ⟨cv,hrc,hvc⟩:=partV_sound (w:=w) hc hy
    split at h
    ·rename_i heq
     simp only [Sem.run_bind,hra,hrc,Result.andThen_ok,ih _ _ _ _ _ _ heq hva hvc,Bool.not_true,Bool.false_eq_true,if_false]
     exact ihf b h
    ·rename_i heq
     injection h with h; subst h
     simp only [Sem.run_bind,hra,hrc,Result.andThen_ok,ih _ _ _ _ _ _ heq hva hvc,Bool.not_false,if_true,Sem.run_pure]
    ·cases h
   ·cases h
  ·rename_i hne
   rw [if_neg hne]
   exact ihf b h
theorem eqIn_sound {C:Ctx} {w:World}:∀ (d:Nat) (t:TypeId) (x y:AV) (b:Bool) (xv yv:Value),eqIn P d t x y = some b→VR C x xv→VR C y yv →
  (Op.equalIn d t xv yv).run P w = .ok b w:=by
 intro d
 induction d with
 | zero=>intro t x y b xv yv h; simp [eqIn] at h
 | succ d ih=>
  intro t x y b xv yv h hx hy
  unfold eqIn at h
  split at h
  ·rename_i ht
   split at h
   ·injection h with h; subst h; simp only [VR] at hx hy; subst hx hy
    simp [Op.equalIn,run_underlying_ok ht]
   ·cases h
  ·rename_i ht
   split at h
   ·split at h
    ·rename_i hk
     injection h with h; subst h; simp only [VR] at hx hy; subst hx hy hk
     simp [Op.equalIn,run_underlying_ok ht]
    ·cases h
   ·cases h
  ·rename_i ht
   split at h
   ·injection h with h; subst h; simp only [VR] at hx hy; subst hx hy
    simp [Op.equalIn,run_underlying_ok ht,beq_toListBytes]
   ·cases h
  ·rename_i fs ht
   split at h
   ·rename_i xs ys
    split at h
    ·cases h
    ·rename_i hst
     simp only [VR] at hx hy
     obtain ⟨ax,rfl,hx⟩:=hx
     obtain ⟨ay,rfl,hy⟩:=hy
     have hf:P.fieldsOf t = fs:=by simp [Program.fieldsOf,ht]
     rw [run_equalIn_struct w d t ax ay (by rw [hf]; exact ht) (by simpa using hst),hf]
     exact run_eqFields hx hy (fun t x y b xv yv h hx hy=>ih t x y b xv yv h hx hy) fs.toList b h
   ·cases h
  ·rename_i len e ht
   split at h
   ·rename_i xs ys
    split at h
    ·rename_i n hn
     simp only [VR] at hx hy
     obtain ⟨ax,rfl,hx⟩:=hx
     obtain ⟨ay,rfl,hy⟩:=hy
     have:=run_eqElems (P:=P) (w:=w) hx hy hn (ih e) len 0 b h
     simp only [Op.equalIn,Sem.run_bind,run_underlying_ok ht,Result.andThen_ok,run_sizeOf_ok hn,Std.Legacy.Range.forIn_eq_forIn_range',Std.Legacy.Range.size]
     rw [show (len - 0 + 1 - 1) / 1 = len by omega,this]
     cases b <;> simp
    ·cases h
   ·cases h
  ·cases h
end Go.AL
namespace Go.AL
open Go
variable {P:Program}
def nilS:AV→Option Bool
 | .nils=>some true
 | .sl _ _ _=>some false
 | .hsl _ _ _ _ _=>some false
 | _=>none
def nilP:AV→Option Bool
 | .nilp=>some true
 | .rptr _=>some false
 | .ptr _ _ _ _=>some false
 | _=>none
def mapAt (h:List ABlk) (b:Nat):Option (List (AV×AV)):=
 match h[b]? with
 | some (.map es)=>some es
 | _=>none
def nilM:AV→Option Bool
 | .nilm=>some true
 | .map _=>some false
 | _=>none
def nilF:AV→Option Bool
 | .nilf=>some true
 | .func _ _ _=>some false
 | _=>none
def nilI:AV→Option Bool
 | .nili=>some true
 | .iface _ _=>some false
 | _=>none
def cmpNil:Option Bool→Option Bool→Option Bool
 | some true,some b=>some b
 | some b,some true=>some b
 | _,_=>none
theorem nilS_sound {C:Ctx} {x:AV} {b:Bool} (hx:nilS x = some b) {v:Value} (hv:VR C x v):∃ a n c,v = .slice a n c∧b = a.isNone:=by
 cases x <;> simp only [nilS] at hx <;> cases hx <;> simp only [VR] at hv
 ·exact ⟨_,_,_,hv,rfl⟩
 ·obtain ⟨a,c,vs,rfl,_⟩:=hv; exact ⟨_,_,_,rfl,rfl⟩
 ·obtain ⟨_,a,c,rfl,_⟩:=hv; exact ⟨_,_,_,rfl,rfl⟩
theorem nilP_sound {C:Ctx} {x:AV} {b:Bool} (hx:nilP x = some b) {v:Value} (hv:VR C x v):∃ a,v = .pointer a∧b = a.isNone:=by
 cases x <;> simp only [nilP] at hx <;> cases hx <;> simp only [VR] at hv
 ·exact ⟨_,hv,rfl⟩
 ·obtain ⟨_,a,rfl,_⟩:=hv; exact ⟨_,rfl,rfl⟩
 ·obtain ⟨a,y,rfl,_⟩:=hv; exact ⟨_,rfl,rfl⟩
theorem nilM_sound {C:Ctx} {x:AV} {b:Bool} (hx:nilM x = some b) {v:Value} (hv:VR C x v):∃ a,v = .map a∧b = a.isNone:=by
 cases x <;> simp only [nilM] at hx <;> cases hx <;> simp only [VR] at hv
 ·exact ⟨_,hv,rfl⟩
 ·obtain ⟨_,r,rfl,_⟩:=hv; exact ⟨_,rfl,rfl⟩
theorem mapAt_spec {C:Ctx} {h:List ABlk} (hs:SR C h) {b:Nat} {es:List (AV×AV)} (hm:mapAt h b = some es) {v:Value} (hv:VR C (.map b) v) :
  h[b]? = some (.map es)∧∃ l arr clock,C.ρ b = some l∧l.g = 0∧v = .map (some l.cb)∧C.w.heap[l.cb]? = some (.map arr clock)∧VRL C (es.map (·.1)) (arr.toList.map (·.key)) ∧
   VRL C (es.map (·.2)) (arr.toList.map (·.val))∧(arr.toList.map (·.born)).Pairwise (· < ·)∧(∀ e ∈ arr,e.born < clock):=by
 unfold mapAt at hm
 split at hm
 ·rename_i es' hb
  injection hm with hm; subst hm
  obtain ⟨l,arr,clock,h1,h2,h3,h4⟩:=hs.blk b _ hb
  simp only [VR] at hv
  obtain ⟨_,r,rfl,hv⟩:=hv
  exact ⟨hb,l,arr,clock,h1,h2,by rw [hv l h1 h2],h3,h4⟩
 ·cases hm
theorem nilF_sound {C:Ctx} {x:AV} {b:Bool} (hx:nilF x = some b) {v:Value} (hv:VR C x v):(b = true∧v = .nilFunc) ∨ (b = false∧∃ f a c,v = .func f a c):=by
 cases x <;> simp only [nilF] at hx <;> cases hx
 ·simp only [VR] at hv; obtain ⟨f,c,rfl,_⟩:=hv; exact .inr ⟨rfl,_,_,_,rfl⟩
 ·simp only [VR] at hv; exact .inl ⟨rfl,hv⟩
theorem nilI_sound {C:Ctx} {x:AV} {b:Bool} (hx:nilI x = some b) {v:Value} (hv:VR C x v):(b = true∧v = .nilIface) ∨ (b = false∧∃ t y,v = .iface t y):=by
 cases x <;> simp only [nilI] at hx <;> cases hx
 ·simp only [VR] at hv; obtain ⟨y,rfl,_⟩:=hv; exact .inr ⟨rfl,_,_,rfl⟩
 ·simp only [VR] at hv; exact .inl ⟨rfl,hv⟩
theorem cmpNil_cases {x y:Option Bool} {b:Bool} (h:cmpNil x y = some b):(x = some true∧y = some b) ∨ (x = some b∧y = some true):=by
 unfold cmpNil at h
 split at h
 ·injection h with h; subst h; exact .inl ⟨rfl,rfl⟩
 ·injection h with h; subst h; exact .inr ⟨rfl,rfl⟩
 ·cases h
def eqV (P:Program) (t:TypeId) (cst:Bool) (x y:AV):Option Bool:=
 match P.underlying t with
 | some (.slice _)=>cmpNil (nilS x) (nilS y)
 | some (.pointer _)=>cmpNil (nilP x) (nilP y)
 | some (.map _ _)=>cmpNil (nilM x) (nilM y)
 | some (.func _ _ _)=>cmpNil (nilF x) (nilF y)
 | some (.interface _)=>if cst then cmpNil (nilI x) (nilI y) else none
 | some _=>if P.eqGuardType P.depth t then none else eqIn P 10000 t x y
 | none=>none
def Operand.isC:Operand→Bool
 | .const _=>true
 | _=>false
theorem eqGuard_ok {w:World} {op:BinOp} {t:TypeId} {x y:Operand} {a b:Value}
  (h:a = .nilIface→b = .nilIface→(Operand.isC x || Operand.isC y) = true) (h2:∀ c d,a = .agg c→b = .agg d→P.eqGuardType P.depth t = false) :
  (eqGuard op t x y a b).run P w = .ok () w:=by
 by_cases hop:op = .eql ∨ op = .neq
 ·by_cases hn:a = .nilIface∧b = .nilIface
  ·obtain ⟨rfl,rfl⟩:=hn
   have:=h rfl rfl
   rcases hop with rfl | rfl <;> cases x <;> cases y <;> simp_all [Operand.isC,eqGuard]
  ·by_cases ha:∃ c d,a = .agg c∧b = .agg d
   ·obtain ⟨c,d,rfl,rfl⟩:=ha
    exact run_eqGuard_agg w op t x y c d (h2 _ _ rfl rfl)
   ·clear h h2
    rcases hop with rfl | rfl
    all_goals
     unfold eqGuard
     simp only [Bool.not_true,Bool.false_eq_true,if_false]
     split
     ·exact absurd ⟨rfl,rfl⟩ hn
     ·exact absurd ⟨_,_,rfl,rfl⟩ ha
     ·rfl
 ·cases op <;> first | exact absurd (Or.inl rfl) hop | exact absurd (Or.inr rfl) hop | rfl
section eqs
variable {w:World} {t:TypeId}
theorem run_eq_slice (d:Nat) {e:TypeId} (ht:P.underlying t = some (.slice e)) {a a':Option Addr} {n c n' c':Nat} (h:a = none ∨ a' = none) :
  (Op.equalIn (d + 1) t (.slice a n c) (.slice a' n' c')).run P w = .ok (a.isNone && a'.isNone) w:=by
 cases a <;> cases a' <;> simp_all [Op.equalIn,run_underlying_ok ht]
theorem run_eq_pointer (d:Nat) {e:TypeId} (ht:P.underlying t = some (.pointer e)) {a a':Option Addr} (h:a = none ∨ a' = none) :
  (Op.equalIn (d + 1) t (.pointer a) (.pointer a')).run P w = .ok (a.isNone && a'.isNone) w:=by
 cases a <;> cases a' <;> simp_all [Op.equalIn,run_underlying_ok ht]
theorem run_eq_map (d:Nat) {k e:TypeId} (ht:P.underlying t = some (.map k e)) {a a':Option Nat} (h:a = none ∨ a' = none) :
  (Op.equalIn (d + 1) t (.map a) (.map a')).run P w = .ok (a.isNone && a'.isNone) w:=by
 cases a <;> cases a' <;> simp_all [Op.equalIn,run_underlying_ok ht]
theorem run_eq_func (d:Nat) {ps rs:Array TypeId} {v:Bool} (ht:P.underlying t = some (.func ps rs v)) :
  (Op.equalIn (d + 1) t .nilFunc .nilFunc).run P w = .ok true w∧(∀ f a c,(Op.equalIn (d + 1) t .nilFunc (.func f a c)).run P w = .ok false w)∧(∀ f a c,(Op.equalIn (d + 1) t (.func f a c) .nilFunc).run P w = .ok false w):=by
 refine ⟨?_,fun f a c=>?_,fun f a c=>?_⟩ <;> simp [Op.equalIn,run_underlying_ok ht]
theorem run_eq_iface (d:Nat) {ms:Array (String×TypeId)} (ht:P.underlying t = some (.interface ms)) :
  (Op.equalIn (d + 1) t .nilIface .nilIface).run P w = .ok true w∧(∀ u y,(Op.equalIn (d + 1) t .nilIface (.iface u y)).run P w = .ok false w)∧(∀ u y,(Op.equalIn (d + 1) t (.iface u y) .nilIface).run P w = .ok false w):=by
 refine ⟨?_,fun u y=>?_,fun u y=>?_⟩ <;> simp [Op.equalIn,run_underlying_ok ht]
end eqs
theorem eqIn_kind {C:Ctx} {d:Nat} {t:TypeId} {x y:AV} {b:Bool} {v:Value} (h:eqIn P d t x y = some b) (hx:VR C x v):v ≠ .nilIface:=by
 rintro rfl
 cases d with
 | zero=>simp [eqIn] at h
 | succ d=>
  unfold eqIn at h
  split at h <;> (try split at h) <;> (try (cases h; done)) <;> simp only [VR] at hx
  all_goals first | (cases hx; done) | (obtain ⟨_,e,_⟩:=hx; cases e; done)
theorem isNone_of {α:Type} {a:Option α} (h:true = a.isNone):a = none:=by cases a <;> simp_all
theorem eqV_sound {C:Ctx} {t:TypeId} {ox oy:Operand} {x y:AV} {b:Bool} (he:eqV P t (Operand.isC ox || Operand.isC oy) x y = some b) {xv yv:Value} (hx:VR C x xv) (hy:VR C y yv)
  (op:BinOp) :
  (eqGuard op t ox oy xv yv).run P C.w = .ok () C.w∧(Op.equal t xv yv).run P C.w = .ok b C.w:=by
 unfold eqV at he
 split at he
 ·rename_i e ht
  rcases cmpNil_cases he with ⟨h1,h2⟩ | ⟨h1,h2⟩
  all_goals
   obtain ⟨a,n,c,rfl,ha⟩:=nilS_sound h1 hx
   obtain ⟨a',n',c',rfl,ha'⟩:=nilS_sound h2 hy
   refine ⟨eqGuard_ok (by simp) (by simp),?_⟩
   rw [show Op.equal t = Op.equalIn (9999 + 1) t from rfl,run_eq_slice 9999 ht (by first | exact .inl (isNone_of ha) | exact .inr (isNone_of ha'))]
   simp [← ha,← ha']
 ·rename_i e ht
  rcases cmpNil_cases he with ⟨h1,h2⟩ | ⟨h1,h2⟩
  all_goals
   obtain ⟨a,rfl,ha⟩:=nilP_sound h1 hx
   obtain ⟨a',rfl,ha'⟩:=nilP_sound h2 hy
   refine ⟨eqGuard_ok (by simp) (by simp),?_⟩
   rw [show Op.equal t = Op.equalIn (9999 + 1) t from rfl,run_eq_pointer 9999 ht (by first | exact .inl (isNone_of ha) | exact .inr (isNone_of ha'))]
   simp [← ha,← ha']
 ·rename_i k e ht
  rcases cmpNil_cases he with ⟨h1,h2⟩ | ⟨h1,h2⟩
  all_goals
   obtain ⟨a,rfl,ha⟩:=nilM_sound h1 hx
   obtain ⟨a',rfl,ha'⟩:=nilM_sound h2 hy
   refine ⟨eqGuard_ok (by simp) (by simp),?_⟩
   rw [show Op.equal t = Op.equalIn (9999 + 1) t from rfl,run_eq_map 9999 ht (by first | exact .inl (isNone_of ha) | exact .inr (isNone_of ha'))]
   simp [← ha,← ha']
 ·rename_i ps rs vr ht
  have hf:=run_eq_func (P:=P) (w:=C.w) 9999 ht
  rcases cmpNil_cases he with ⟨h1,h2⟩ | ⟨h1,h2⟩
  all_goals
   refine ⟨eqGuard_ok ?_ ?_,?_⟩
   ·rcases nilF_sound h1 hx with ⟨_,rfl⟩ | ⟨_,_,_,_,rfl⟩ <;> simp
   ·rcases nilF_sound h1 hx with ⟨_,rfl⟩ | ⟨_,_,_,_,rfl⟩ <;> simp
   rw [show Op.equal t = Op.equalIn (9999 + 1) t from rfl]
   rcases nilF_sound h1 hx with ⟨e1,rfl⟩ | ⟨e1,_,_,_,rfl⟩ <;> rcases nilF_sound h2 hy with ⟨e2,rfl⟩ | ⟨e2,_,_,_,rfl⟩ <;> (try cases e1) <;> (try cases e2)
   all_goals first | exact hf.1 | exact hf.2.1 _ _ _ | exact hf.2.2 _ _ _
 ·rename_i ms ht
  split at he
  ·rename_i hc
   have hf:=run_eq_iface (P:=P) (w:=C.w) 9999 ht
   rcases cmpNil_cases he with ⟨h1,h2⟩ | ⟨h1,h2⟩
   all_goals
    refine ⟨eqGuard_ok (fun _ _=>hc) ?_,?_⟩
    ·rcases nilI_sound h1 hx with ⟨_,rfl⟩ | ⟨_,_,_,rfl⟩ <;> simp
    rw [show Op.equal t = Op.equalIn (9999 + 1) t from rfl]
    rcases nilI_sound h1 hx with ⟨e1,rfl⟩ | ⟨e1,_,_,rfl⟩ <;> rcases nilI_sound h2 hy with ⟨e2,rfl⟩ | ⟨e2,_,_,rfl⟩ <;> (try cases e1) <;> (try cases e2)
    all_goals first | exact hf.1 | exact hf.2.1 _ _ | exact hf.2.2 _ _
  ·cases he
 ·rename_i d h1 h2 h3 h4 h5 ht
  split at he
  ·cases he
  ·rename_i hg
   exact ⟨eqGuard_ok (fun e _=>absurd e (eqIn_kind he hx)) (fun _ _ _ _=>by simpa using hg),eqIn_sound (w:=C.w) 10000 t x y b _ _ he hx hy⟩
 ·cases he
end Go.AL
namespace Go.AL
open Go
variable {P:Program}
def binV (P:Program) (op:BinOp) (t:TypeId) (cst:Bool) (x y:AV):Option AV:=
 match x,y with
 | .int k a,.int k' b=>if isShift op then shiftOp op k a b else if k = k' then intOp op k a b else none
 | .str a,.str b=>strOp op a b
 | x,y=>match op with
  | .eql=>(eqV P t cst x y).map .bool
  | .neq=>(eqV P t cst x y).map fun b=>.bool (!b)
  | _=>none
theorem eqGuard_ints {w:World} (op:BinOp) (t:TypeId) (ox oy:Operand) {a b:Value} (ha:(∀ c,a ≠ .agg c)∧a ≠ .nilIface):(eqGuard op t ox oy a b).run P w = .ok () w:=
 eqGuard_ok (fun e _=>absurd e ha.2) (fun c _ e _=>absurd e (ha.1 c))
def binEq (t:TypeId) (x y:Value):Prop:=
 binOp .eql t x y = (do pure (.bool (← Op.equal t x y)))∧binOp .neq t x y = (do pure (.bool (!(← Op.equal t x y))))
theorem eqIn_binEq {C:Ctx} {d:Nat} {t:TypeId} {x y:AV} {b:Bool} (he:eqIn P d t x y = some b) (hni:∀ k a k' b,x = .int k a→y = .int k' b→False) (hns:∀ a b,x = .str a→y = .str b→False)
  {xv yv:Value} (hx:VR C x xv) (hy:VR C y yv):binEq t xv yv:=by
 cases d with
 | zero=>simp [eqIn] at he
 | succ d=>
  unfold eqIn at he
  split at he
  ·split at he
   ·simp only [VR] at hx hy; subst hx hy; exact ⟨rfl,rfl⟩
   ·cases he
  ·split at he
   ·exact (hni _ _ _ _ rfl rfl).elim
   ·cases he
  ·split at he
   ·exact (hns _ _ rfl rfl).elim
   ·cases he
  ·split at he
   ·simp only [VR] at hx hy; obtain ⟨a,rfl,_⟩:=hx; obtain ⟨a',rfl,_⟩:=hy; exact ⟨rfl,rfl⟩
   ·cases he
  ·split at he
   ·simp only [VR] at hx hy; obtain ⟨a,rfl,_⟩:=hx; obtain ⟨a',rfl,_⟩:=hy; exact ⟨rfl,rfl⟩
   ·cases he
  ·cases he
theorem eqV_binEq {C:Ctx} {t:TypeId} {cst:Bool} {x y:AV} {b:Bool} (he:eqV P t cst x y = some b) (hni:∀ k a k' b,x = .int k a→y = .int k' b→False) (hns:∀ a b,x = .str a→y = .str b→False)
  {xv yv:Value} (hx:VR C x xv) (hy:VR C y yv):binEq t xv yv:=by
 unfold eqV at he
 split at he
 ·rcases cmpNil_cases he with ⟨h1,h2⟩ | ⟨h1,h2⟩
  all_goals
   obtain ⟨a,n,c,rfl,ha⟩:=nilS_sound h1 hx
   obtain ⟨a',n',c',rfl,ha'⟩:=nilS_sound h2 hy
   exact ⟨rfl,rfl⟩
 ·rcases cmpNil_cases he with ⟨h1,h2⟩ | ⟨h1,h2⟩
  all_goals
   obtain ⟨a,rfl,ha⟩:=nilP_sound h1 hx
   obtain ⟨a',rfl,ha'⟩:=nilP_sound h2 hy
   exact ⟨rfl,rfl⟩
 ·rcases cmpNil_cases he with ⟨h1,h2⟩ | ⟨h1,h2⟩
  all_goals
   obtain ⟨a,rfl,ha⟩:=nilM_sound h1 hx
   obtain ⟨a',rfl,ha'⟩:=nilM_sound h2 hy
   exact ⟨rfl,rfl⟩
 ·rcases cmpNil_cases he with ⟨h1,h2⟩ | ⟨h1,h2⟩
  all_goals
   rcases nilF_sound h1 hx with ⟨e1,rfl⟩ | ⟨e1,_,_,_,rfl⟩ <;> rcases nilF_sound h2 hy with ⟨e2,rfl⟩ | ⟨e2,_,_,_,rfl⟩ <;> exact ⟨rfl,rfl⟩
 ·split at he
  ·rcases cmpNil_cases he with ⟨h1,h2⟩ | ⟨h1,h2⟩
   all_goals
    rcases nilI_sound h1 hx with ⟨e1,rfl⟩ | ⟨e1,_,_,rfl⟩ <;> rcases nilI_sound h2 hy with ⟨e2,rfl⟩ | ⟨e2,_,_,rfl⟩ <;> exact ⟨rfl,rfl⟩
  ·cases he
 ·split at he
  ·cases he
  ·exact eqIn_binEq he hni hns hx hy
 ·cases he
theorem binV_sound {C:Ctx} {op:BinOp} {t:TypeId} {ox oy:Operand} {x y v:AV} (hb:binV P op t (Operand.isC ox || Operand.isC oy) x y = some v) {xv yv:Value} (hx:VR C x xv) (hy:VR C y yv) :
  ∃ v',(eqGuard op t ox oy xv yv).run P C.w = .ok () C.w∧(binOp op t xv yv).run P C.w = .ok v' C.w∧VR C v v':=by
 unfold binV at hb
 split at hb
 ·simp only [VR] at hx hy
  subst hx hy
  split at hb
  ·obtain ⟨v',h1,h2⟩:=run_shiftOp (P:=P) (w:=C.w) (t:=t) hb
   exact ⟨v',eqGuard_ints op t ox oy (by simp),h1,h2 C⟩
  ·rename_i hsh
   split at hb
   ·rename_i hk
    subst hk
    obtain ⟨v',h1,h2⟩:=run_intOp (P:=P) (w:=C.w) (t:=t) (by simpa using hsh) hb
    exact ⟨v',eqGuard_ints op t ox oy (by simp),h1,h2 C⟩
   ·cases hb
 ·simp only [VR] at hx hy
  subst hx hy
  obtain ⟨v',h1,h2⟩:=run_strOp (P:=P) (w:=C.w) (t:=t) hb
  exact ⟨v',eqGuard_ints op t ox oy (by simp),h1,h2 C⟩
 ·rename_i hni hns
  split at hb
  ·obtain ⟨b,hbb,rfl⟩:=Option.map_eq_some_iff.1 hb
   obtain ⟨h1,h2⟩:=eqV_sound hbb hx hy .eql
   have h3:=eqV_binEq hbb (fun _ _ _ _=>hni _ _ _ _) (fun _ _=>hns _ _) hx hy
   exact ⟨.bool b,h1,by rw [h3.1]; simp [h2],by simp only [VR]⟩
  ·obtain ⟨b,hbb,rfl⟩:=Option.map_eq_some_iff.1 hb
   obtain ⟨h1,h2⟩:=eqV_sound hbb hx hy .neq
   have h3:=eqV_binEq hbb (fun _ _ _ _=>hni _ _ _ _) (fun _ _=>hns _ _) hx hy
   exact ⟨.bool (!b),h1,by rw [h3.2]; simp [h2],by simp only [VR]⟩
  ·cases hb
end Go.AL
namespace Go.AL
open Go
variable {P:Program}
def fieldAddrV (P:Program) (h:List ABlk) (s:TypeId) (x:AV) (f:Nat):Option AV:=
 match fieldT P s f with
 | none=>none
 | some fd=>match sizeT P fd.type with
  | some (n + 1)=>match x with
   | .ptr b g i o=>if (rowAt h b g).isSome then some (.ptr b g i (o + fd.offset)) else none
   | .rptr y=>(getPart P fd.type y fd.offset).map .rptr
   | _=>none
  | _=>none
theorem fieldAddrV_sound {C:Ctx} {h:List ABlk} (hs:SR C h) {s:TypeId} {x v:AV} {f:Nat} (hf:fieldAddrV P h s x f = some v) {xv:Value} (hx:VR C x xv) :
  ∃ v',(Instr.fieldAt s xv f).run P C.w = .ok v' C.w∧VR C v v':=by
 unfold fieldAddrV at hf
 split at hf
 ·cases hf
 ·rename_i fd hfd
  unfold fieldT at hfd
  split at hfd
  ·rename_i fields hu
   split at hf
   ·rename_i n hn
    have hpl:=fun a=>run_fieldPlace (P:=P) (w:=C.w) (a:=a) hn (by omega)
    split at hf
    ·rename_i b g i o
     split at hf
     ·rename_i hr
      injection hf with hf; subst hf
      obtain ⟨⟨sz,xs⟩,hr⟩:=Option.isSome_iff_exists.1 hr
      obtain ⟨l,h1,h2,h3,rfl⟩:=hx.ptr_live hs hr
      refine ⟨.pointer (some ⟨l.cb,l.d + i * l.sz + (o + fd.offset),none⟩),?_,?_⟩
      ·simp [Instr.fieldAt,Instr.sureAddr,run_underlying_ok hu,hfd,hpl,add_plain,h3,Nat.add_assoc]
      ·simp only [VR] at hx ⊢
       exact ⟨hx.1,_,rfl,fun l' hl'=>by rw [h1] at hl'; injection hl' with hl'; subst hl'; exact ⟨Nat.le_of_eq h2.symm,fun _=>rfl⟩⟩
     ·cases hf
    ·rename_i y
     obtain ⟨z,hz,rfl⟩:=Option.map_eq_some_iff.1 hf
     simp only [VR] at hx
     obtain ⟨a,yv,rfl,hsp,hok,hpos,hh,hy⟩:=hx
     obtain ⟨zv,hh',hpos',hz'⟩:=getPart_holds (C:=C) hz (by rw [hn]; simp) hy hh hpos
     refine ⟨.pointer (some ⟨a.block,a.off + fd.offset,none⟩),?_,?_⟩
     ·simp [Instr.fieldAt,Instr.sureAddr,run_underlying_ok hu,hfd,hpl,add_plain hsp]
     ·simp only [VR]
      exact ⟨_,zv,rfl,rfl,hok,hpos',hh',hz'⟩
    ·cases hf
   ·cases hf
  ·cases hfd
def indexAddrV (P:Program) (h:List ABlk) (t:TypeId) (x ix:AV):Option AV:=
 match ix with
 | .int _ i=>
  if i < 0 then none else
  match P.underlying t with
  | some (.array len e)=>match sizeT P e with
   | some (n + 1)=>if i < len then match x with
    | .ptr b g k o=>if (rowAt h b g).isSome then some (.ptr b g k (o + i.toNat * (n + 1))) else none
    | .rptr y=>(getPart P e y (i.toNat * (n + 1))).map .rptr
    | _=>none
    else none
   | _=>none
  | some (.slice e)=>match sizeT P e with
   | some (n + 1)=>match x with
    | .sl sz xs _=>if sz = n + 1 then (xs[i.toNat]?).map .rptr else none
    | .hsl b g k len _=>if i < len then match rowAt h b g with
     | some (sz,_)=>if sz = n + 1 then some (.ptr b g (k + i.toNat) 0) else none
     | none=>none
     else none
    | _=>none
   | _=>none
  | _=>none
 | _=>none
theorem indexAddrV_sound {C:Ctx} {h:List ABlk} (hs:SR C h) {t:TypeId} {x ix v:AV} (hf:indexAddrV P h t x ix = some v) {xv iv:Value} (hx:VR C x xv) (hi:VR C ix iv) :
  ∃ v',(Instr.indexAt t xv iv).run P C.w = .ok v' C.w∧VR C v v':=by
 unfold indexAddrV at hf
 split at hf
 ·rename_i k i
  simp only [VR] at hi
  subst hi
  split at hf
  ·cases hf
  ·rename_i hi0
   split at hf
   ·rename_i len e ht
    split at hf
    ·rename_i n hn
     split at hf
     ·rename_i hlt
      have hrange:0≤i∧i < (len:Int):=⟨by omega,hlt⟩
      split at hf
      ·rename_i b g kk o
       split at hf
       ·rename_i hr
        injection hf with hf; subst hf
        obtain ⟨⟨sz,xs⟩,hr⟩:=Option.isSome_iff_exists.1 hr
        obtain ⟨l,h1,h2,h3,rfl⟩:=hx.ptr_live hs hr
        refine ⟨.pointer (some ⟨l.cb,l.d + kk * l.sz + (o + i.toNat * (n + 1)),none⟩),?_,?_⟩
        ·simp [Instr.indexAt,asIntOf,Instr.sureAddr,run_underlying_ok ht,run_sizeOf_ok hn,hrange,add_plain,h3,Nat.add_assoc]
        ·simp only [VR] at hx ⊢
         exact ⟨hx.1,_,rfl,fun l' hl'=>by rw [h1] at hl'; injection hl' with hl'; subst hl'; exact ⟨Nat.le_of_eq h2.symm,fun _=>rfl⟩⟩
       ·cases hf
      ·rename_i y
       obtain ⟨z,hz,rfl⟩:=Option.map_eq_some_iff.1 hf
       simp only [VR] at hx
       obtain ⟨a,yv,rfl,hsp,hok,hpos,hh,hy⟩:=hx
       obtain ⟨zv,hh',hpos',hz'⟩:=getPart_holds (C:=C) hz (by rw [hn]; simp) hy hh hpos
       refine ⟨.pointer (some ⟨a.block,a.off + i.toNat * (n + 1),none⟩),?_,?_⟩
       ·simp [Instr.indexAt,asIntOf,Instr.sureAddr,run_underlying_ok ht,run_sizeOf_ok hn,hrange,add_plain hsp]
       ·simp only [VR]
        exact ⟨_,zv,rfl,rfl,hok,hpos',hh',hz'⟩
      ·cases hf
     ·cases hf
    ·cases hf
   ·rename_i e ht
    split at hf
    ·rename_i n hn
     split at hf
     ·rename_i sz xs cap
      split at hf
      ·rename_i hsz
       subst hsz
       obtain ⟨z,hz,rfl⟩:=Option.map_eq_some_iff.1 hf
       simp only [VR] at hx
       obtain ⟨a,c,vs,rfl,hc,hcap,hsp,hok,hh,hl⟩:=hx
       obtain ⟨y,hy,hv⟩:=hl.get hz
       have hlt:i.toNat < xs.length:=(List.getElem?_eq_some_iff.1 hz).1
       have hsp:=hsp (by omega)
       have hlt':i.toNat < vs.length:=(List.getElem?_eq_some_iff.1 hy).1
       have hrange:0≤i∧i < (xs.length:Int):=⟨by omega,by omega⟩
       have hhi:=hh i.toNat hlt'
       have ey:vs[i.toNat] = y:=by simpa [hlt'] using hy
       rw [ey] at hhi
       refine ⟨.pointer (some ⟨a.block,a.off + i.toNat * (n + 1),none⟩),?_,?_⟩
       ·simp [Instr.indexAt,asIntOf,run_underlying_ok ht,run_sizeOf_ok hn,hrange,add_plain hsp]
       ·simp only [VR]
        exact ⟨_,y,rfl,rfl,hok (by intro e; simp [e] at hlt),by omega,hhi.2,hv⟩
      ·cases hf
     ·rename_i b g kk len cap
      split at hf
      ·rename_i hlt
       have hrange:0≤i∧i < (len:Int):=⟨by omega,hlt⟩
       split at hf
       ·rename_i sz xs hr
        split at hf
        ·rename_i hsz
         injection hf with hf; subst hf
         obtain ⟨_,_,l,arr,e',vs,h1,h2,h3,_⟩:=rowAt_spec hs hr
         simp only [VR] at hx
         obtain ⟨hb0,a,c,rfl,hc,_,hx⟩:=hx
         have ha:=((hx l h1).2 h2.symm).1 (by omega)
         subst ha
         refine ⟨.pointer (some ⟨l.cb,l.d + (kk + i.toNat) * l.sz + 0,none⟩),?_,?_⟩
         ·simp [Instr.indexAt,asIntOf,run_underlying_ok ht,run_sizeOf_ok hn,hrange,add_plain,h3,hsz,Nat.add_mul,Nat.add_assoc]
         ·simp only [VR]
          exact ⟨hb0,_,rfl,fun l' hl'=>by rw [h1] at hl'; injection hl' with hl'; subst hl'; exact ⟨Nat.le_of_eq h2.symm,fun _=>rfl⟩⟩
        ·cases hf
       ·cases hf
      ·cases hf
     ·cases hf
    ·cases hf
   ·cases hf
 ·cases hf
end Go.AL
namespace Go.AL
open Go
variable {P:Program}
def boundV (x:Option AV) (dflt:Nat) (y:Nat):Option Nat:=
 match x with
 | none=>some dflt
 | some (.int _ i)=>if 0≤i∧i≤y then some i.toNat else none
 | some _=>none
theorem run_sliceBound {w:World} {k:IntKind} {i:Int} {y:Nat} {code:BoundsCode} (h:0≤i∧i≤y):(Instr.sliceBound (.int k i) y code).run P w = .ok i.toNat w:=by
 simp [Instr.sliceBound,asIntOf,h]
def boundsV (lo hi mx:Option AV) (len top mtop:Nat):Option (Nat×Nat×Option Nat):=
 match mx with
 | none=>match boundV hi len top with
  | some h=>match boundV lo 0 h with
   | some l=>some (l,h,none)
   | none=>none
  | none=>none
 | some m=>match boundV (some m) 0 mtop with
  | some m=>match hi with
   | none=>none
   | some hi=>match boundV (some hi) 0 m with
    | some h=>match boundV lo 0 h with
     | some l=>some (l,h,some m)
     | none=>none
    | none=>none
  | none=>none
theorem VR_int {C:Ctx} {k:IntKind} {i:Int} {v:Value} (h:VR C (.int k i) v):v = .int k i:=by simpa only [VR] using h
theorem boundV_some {x:AV} {d y n:Nat} (h:boundV (some x) d y = some n):∃ k i,x = .int k i∧0≤i∧i≤y∧n = i.toNat:=by
 unfold boundV at h
 split at h
 ·rename_i heq; cases heq
 ·rename_i k i heq
  injection heq with heq
  split at h
  ·rename_i hi; injection h with h; exact ⟨k,i,heq,hi.1,hi.2,h.symm⟩
  ·cases h
 ·cases h
def VRO (C:Ctx):Option AV→Option Value→Prop
 | none,none=>True
 | some x,some v=>VR C x v
 | _,_=>False
theorem run_sliceBounds {C:Ctx} {w:World} {lo hi mx:Option AV} {vl vh vm:Option Value} (hl:VRO C lo vl) (hh:VRO C hi vh) (hm:VRO C mx vm) {isSlice:Bool} {len top mtop cap l h:Nat} {m:Option Nat}
  (hb:boundsV lo hi mx len top mtop = some (l,h,m)) (htop:top≤cap) (hmtop:mtop≤cap) (hlen:len≤top) :
  (Instr.sliceBounds isSlice len cap vl vh vm).run P w = .ok (l,h,m.getD cap) w∧l≤h∧h≤m.getD cap∧m.getD cap≤cap∧(m = none→h≤top):=by
 unfold boundsV at hb
 split at hb
 ·cases vm with
  | some v=>exact hm.elim
  | none=>
  split at hb
  ·rename_i h' hh'
   split at hb
   ·rename_i l' hl'
    injection hb with hb; injection hb with e1 hb; injection hb with e2 e3; subst e1 e2 e3
    have hhi:(Instr.sliceBounds isSlice len cap vl vh none).run P w = ((match vl with | some v=>Instr.sliceBound v h' .sliceB | none=>pure 0).run P w).andThen (fun l w'=>.ok (l,h',cap) w')∧h'≤top:=by
     cases hi with
     | none=>
      cases vh with
      | some v=>exact hh.elim
      | none=>
       simp [boundV] at hh'; subst hh'
       refine ⟨?_,hlen⟩
       cases vl <;> simp [Instr.sliceBounds]
     | some x=>
      cases vh with
      | none=>exact hh.elim
      | some v=>
       obtain ⟨k,i,rfl,h0,h1,rfl⟩:=boundV_some hh'
       have hv:=VR_int (C:=C) hh; subst hv
       have hr:=fun code=>run_sliceBound (P:=P) (w:=w) (k:=k) (i:=i) (y:=cap) (code:=code) ⟨h0,by omega⟩
       refine ⟨?_,by omega⟩
       cases vl <;> simp [Instr.sliceBounds,hr]
    obtain ⟨hhi,htop'⟩:=hhi
    rw [hhi]
    cases lo with
    | none=>
     cases vl with
     | some v=>exact hl.elim
     | none=>simp [boundV] at hl'; subst hl'; exact ⟨by simp,by omega,by simp; omega,Nat.le_refl _,fun _=>htop'⟩
    | some x=>
     cases vl with
     | none=>exact hl.elim
     | some v=>
      obtain ⟨k,i,rfl,h0,h1,rfl⟩:=boundV_some hl'
      have hv:=VR_int (C:=C) hl; subst hv
      exact ⟨by simp [run_sliceBound (P:=P) (w:=w) (k:=k) (i:=i) (y:=h') ⟨h0,h1⟩],by omega,by simp; omega,Nat.le_refl _,fun _=>htop'⟩
   ·cases hb
  ·cases hb
 ·rename_i xm
  cases vm with
  | none=>exact hm.elim
  | some vmv=>
  split at hb
  ·rename_i m' hm'
   obtain ⟨k,i,rfl,h0,h1,rfl⟩:=boundV_some hm'
   have hv:=VR_int (C:=C) hm; subst hv
   split at hb
   ·cases hb
   ·rename_i xh
    cases vh with
    | none=>exact hh.elim
    | some vhv=>
    split at hb
    ·rename_i h' hh'
     obtain ⟨k',i',rfl,h0',h1',rfl⟩:=boundV_some hh'
     have hv:=VR_int (C:=C) hh; subst hv
     split at hb
     ·rename_i l' hl'
      injection hb with hb; injection hb with e1 hb; injection hb with e2 e3; subst e1 e2 e3
      have hr:=fun code=>run_sliceBound (P:=P) (w:=w) (k:=k) (i:=i) (y:=cap) (code:=code) ⟨h0,by omega⟩
      have hr':=fun code=>run_sliceBound (P:=P) (w:=w) (k:=k') (i:=i') (y:=i.toNat) (code:=code) ⟨h0',by omega⟩
      cases lo with
      | none=>
       cases vl with
       | some v=>exact hl.elim
       | none=>simp [boundV] at hl'; subst hl'; exact ⟨by simp [Instr.sliceBounds,hr,hr'],by omega,by simp; omega,by simp; omega,fun e=>by cases e⟩
      | some x=>
       cases vl with
       | none=>exact hl.elim
       | some v=>
        obtain ⟨k'',i'',rfl,h0'',h1'',rfl⟩:=boundV_some hl'
        have hv:=VR_int (C:=C) hl; subst hv
        have hr'':=fun code=>run_sliceBound (P:=P) (w:=w) (k:=k'') (i:=i'') (y:=i'.toNat) (code:=code) ⟨h0'',by omega⟩
        exact ⟨by simp [Instr.sliceBounds,hr,hr',hr''],by omega,by simp; omega,by simp; omega,fun e=>by cases e⟩
     ·cases hb
    ·cases hb
  ·cases hb
def sliceV (P:Program) (h:List ABlk) (t:TypeId) (x:AV) (lo hi mx:Option AV):Option AV:=
 match P.underlying t with
 | some .string=>match x with
  | .str s=>match mx with
   | none=>(boundsV lo hi none s.size s.size s.size).map fun (l,h,_)=>.str (s.extract l h)
   | some _=>none
  | _=>none
 | some (.slice e)=>match sizeT P e with
  | some sz'=>match x with
   | .nils=>(boundsV lo hi mx 0 0 0).map fun _=>.nils
   | .sl sz xs cap=>if sz = sz' then (boundsV lo hi mx xs.length xs.length (cap.getD xs.length)).bind fun (l,h,m)=>
     if h≤xs.length then some (.sl sz ((xs.drop l).take (h - l)) (match m with | some m=>some (m - l) | none=>cap.map (· - l))) else none else none
   | .hsl b g i len cap=>match rowAt h b g with
    | some (sz,_)=>if sz = sz' then (boundsV lo hi mx len (cap.getD len) (cap.getD len)).map fun (l,h,m)=>
     .hsl b g (i + l) (h - l) (match m with | some m=>some (m - l) | none=>cap.map (· - l)) else none
    | none=>none
   | _=>none
  | none=>none
 | _=>none
end Go.AL
namespace Go.AL
open Go
variable {P:Program}
theorem HoldsRow.drop_take {w:World} {a:Addr} {sz l n:Nat} {vs:List Value} (h:HoldsRow w a sz vs):HoldsRow w ⟨a.block,a.off + l * sz,none⟩ sz ((vs.drop l).take n):=by
 intro i hi
 have hi':l + i < vs.length:=by simp at hi; omega
 obtain ⟨h1,h2⟩:=h (l + i) hi'
 have e:((vs.drop l).take n)[i] = vs[l + i]:=by simp
 refine ⟨by rw [e]; exact h1,?_⟩
 rw [e]
 have:a.off + (l + i) * sz = a.off + l * sz + i * sz:=by rw [Nat.add_mul]; omega
 rw [this] at h2
 exact h2
theorem sliceV_sound {C:Ctx} {h:List ABlk} (hs:SR C h) {t:TypeId} {x v:AV} {lo hi mx:Option AV} (hf:sliceV P h t x lo hi mx = some v) {xv:Value} {vl vh vm:Option Value}
  (hx:VR C x xv) (hl:VRO C lo vl) (hh:VRO C hi vh) (hm:VRO C mx vm) :
  ∃ v',(Instr.sliceAt t xv vl vh vm).run P C.w = .ok v' C.w∧VR C v v':=by
 unfold sliceV at hf
 split at hf
 ·rename_i ht
  split at hf
  ·rename_i s
   split at hf
   ·cases vm with
    | some v=>exact hm.elim
    | none=>
    obtain ⟨⟨l,h',m⟩,hb,rfl⟩:=Option.map_eq_some_iff.1 hf
    simp only [VR] at hx; subst hx
    obtain ⟨hr,_⟩:=run_sliceBounds (P:=P) (w:=C.w) hl hh (mx:=none) (vm:=none) trivial (isSlice:=false) hb (Nat.le_refl _) (Nat.le_refl _) (Nat.le_refl _)
    exact ⟨.string (s.extract l h'),by simp [Instr.sliceAt,Instr.slice,run_underlying_ok ht,hr],by simp only [VR]⟩
   ·cases hf
  ·cases hf
 ·rename_i e ht
  split at hf
  ·rename_i sz' hn
   split at hf
   ·obtain ⟨⟨l,h',m⟩,hb,rfl⟩:=Option.map_eq_some_iff.1 hf
    simp only [VR] at hx; subst hx
    obtain ⟨hr,h1,h2,h3,h4⟩:=run_sliceBounds (P:=P) (w:=C.w) hl hh hm (isSlice:=true) hb (Nat.le_refl _) (Nat.le_refl _) (Nat.le_refl _)
    refine ⟨.slice none 0 0,?_,by simp only [VR]⟩
    have e1:m.getD 0 = 0:=by omega
    have e2:h' = 0:=by omega
    have e3:l = 0:=by omega
    subst e2 e3
    simp [Instr.sliceAt,Instr.slice,run_underlying_ok ht,hr,run_sizeOf_ok hn,e1]
   ·rename_i sz xs cap
    split at hf
    ·rename_i hsz
     subst hsz
     obtain ⟨⟨l,h',m⟩,hb,hf⟩:=Option.bind_eq_some_iff.1 hf
     simp only at hf
     split at hf
     case isFalse=>cases hf
     rename_i hhl
     injection hf with hf; subst hf
     simp only [VR] at hx
     obtain ⟨a,c,vs,rfl,hc,hcap,hsp,hok,hhr,hvl⟩:=hx
     have hmt:cap.getD xs.length≤c:=by cases cap with | none=>simpa using hc | some k=>simp [hcap k rfl]
     obtain ⟨hr,h1,h2,h3,h4⟩:=run_sliceBounds (P:=P) (w:=C.w) (cap:=c) hl hh hm (isSlice:=true) hb hc hmt (Nat.le_refl _)
     have hlen:=hvl.length
     refine ⟨_,by simp [Instr.sliceAt,Instr.slice,run_underlying_ok ht,hr,run_sizeOf_ok hn]; rfl,?_⟩
     simp only [VR]
     refine ⟨if m.getD c = l then a else a.add (l * sz),m.getD c - l,(vs.drop l).take (h' - l),?_,?_,?_,?_,?_,?_,(hvl.drop l).take (h' - l)⟩
     ·have:((xs.drop l).take (h' - l)).length = h' - l:=by simp; omega
      rw [this]
      split <;> simp_all
     ·simp; omega
     ·intro k hk
      cases m with
      | none=>
       cases cap with
       | none=>simp at hk
       | some k0=>simp at hk; simp [hcap k0 rfl,hk]
      | some m0=>simp at hk; simp [hk]
     ·intro hmc
      have hsp:=hsp (by omega)
      split
      ·exact hsp
      ·rw [add_plain hsp]
     ·intro hne
      have hne':xs ≠ []:=by intro e; simp [e] at hne
      have hsp:=hsp (by have:=List.length_pos_iff.2 hne'; omega)
      split
      ·exact hok hne'
      ·rw [add_plain hsp]; exact hok hne'
     ·by_cases hml:m.getD c = l
      ·have:h' - l = 0:=by omega
       rw [this]
       intro i hi
       simp at hi
      ·have hsp:=hsp (by omega)
       rw [if_neg hml,add_plain hsp]
       exact hhr.drop_take
    ·cases hf
   ·rename_i b g i len cap
    split at hf
    ·rename_i sz xs hr0
     split at hf
     ·rename_i hsz
      subst hsz
      obtain ⟨⟨l,h',m⟩,hb,rfl⟩:=Option.map_eq_some_iff.1 hf
      obtain ⟨_,hpos,loc,arr,e',vs,h1,h2,h3,_⟩:=rowAt_spec hs hr0
      have hx0:=hx
      simp only [VR] at hx
      obtain ⟨hb0,a,c,rfl,hc,hcap,hx⟩:=hx
      obtain ⟨ha,hsize⟩:=(hx loc h1).2 h2.symm
      have hmt:cap.getD len≤c:=by cases cap with | none=>simpa using hc | some k=>simp [hcap k rfl]
      have hlt:len≤cap.getD len:=by cases cap with | none=>simp | some k=>simp [← hcap k rfl,hc]
      obtain ⟨hr,h1',h2',h3',h4'⟩:=run_sliceBounds (P:=P) (w:=C.w) (cap:=c) hl hh hm (isSlice:=true) hb hmt hmt hlt
      refine ⟨_,by simp [Instr.sliceAt,Instr.slice,run_underlying_ok ht,hr,run_sizeOf_ok hn]; rfl,?_⟩
      simp only [VR]
      refine ⟨hb0,if m.getD c = l then a else a.add (l * sz),m.getD c - l,?_,by omega,?_,fun l' hl'=>?_⟩
      ·by_cases hml:m.getD c = l
       ·simp only [if_pos hml]
       ·simp only [if_neg hml,Option.map_some]
      ·intro k hk
       cases m with
       | none=>
        cases cap with
        | none=>simp at hk
        | some k0=>simp at hk; simp [hcap k0 rfl,hk]
       | some m0=>simp at hk; simp [hk]
      rw [h1] at hl'; injection hl' with hl'; subst hl'
      refine ⟨Nat.le_of_eq h2.symm,fun _=>⟨?_,?_⟩⟩
      ·intro hne
       have hml:m.getD c ≠ l:=by omega
       rw [if_neg hml]
       have:=ha (by omega)
       subst this
       rw [add_plain rfl,h3]
       rw [Nat.add_mul,Nat.add_assoc]
      ·refine Nat.le_trans ?_ hsize
       have:i + l + (m.getD c - l)≤i + c:=by omega
       exact Nat.add_le_add_left (Nat.mul_le_mul_right _ this) _
     ·cases hf
    ·cases hf
   ·cases hf
  ·cases hf
 ·cases hf
end Go.AL
namespace Go.AL
open Go
variable {P:Program}
def cellsV:AV→Option (List AV)
 | .agg cs=>some cs
 | .tup _=>none
 | .poison=>none
 | v=>some [v]
theorem cellsV_sound {C:Ctx} {x:AV} {cs:List AV} (h:cellsV x = some cs) {v:Value} (hx:VR C x v):VRL C cs v.cells.toList∧(v.cells = #[v] ∨ ∃ a,v = .agg a):=by
 cases x <;> simp only [cellsV] at h <;> cases h <;> simp only [VR] at hx
 case agg=>obtain ⟨arr,rfl,hl⟩:=hx; exact ⟨hl,.inr ⟨_,rfl⟩⟩
 case ptr=>obtain ⟨_,a,rfl,_⟩:=(hx); exact ⟨.cons (by simpa only [VR] using ⟨‹_›,_,rfl,‹_›⟩) .nil,.inl rfl⟩
 case rptr=>obtain ⟨a,y,rfl,hr⟩:=hx; exact ⟨.cons (by simp only [VR]; exact ⟨a,y,rfl,hr⟩) .nil,.inl rfl⟩
 case sl=>obtain ⟨a,c,vs,rfl,hr⟩:=hx; exact ⟨.cons (by simp only [VR]; exact ⟨a,c,vs,rfl,hr⟩) .nil,.inl rfl⟩
 case vw=>
  rcases hx with ⟨rfl,rfl⟩ | ⟨a,c,vs,rfl,hr⟩
  ·exact ⟨.cons (by simp only [VR]; exact .inl ⟨trivial,trivial⟩) .nil,.inl rfl⟩
  ·exact ⟨.cons (by simp only [VR]; exact .inr ⟨a,c,vs,rfl,hr⟩) .nil,.inl rfl⟩
 case hsl=>obtain ⟨hb,a,c,rfl,hr⟩:=hx; exact ⟨.cons (by simp only [VR]; exact ⟨hb,a,c,rfl,hr⟩) .nil,.inl rfl⟩
 case map=>obtain ⟨hb,r,rfl,hr⟩:=hx; exact ⟨.cons (by simp only [VR]; exact ⟨hb,r,rfl,hr⟩) .nil,.inl rfl⟩
 case yield=>obtain ⟨hb,r,rfl,hr⟩:=hx; exact ⟨.cons (by simp only [VR]; exact ⟨hb,r,rfl,hr⟩) .nil,.inl rfl⟩
 case func=>obtain ⟨a,y,rfl,hr⟩:=hx; exact ⟨.cons (by simp only [VR]; exact ⟨a,y,rfl,hr⟩) .nil,.inl rfl⟩
 case iface=>obtain ⟨y,rfl,hr⟩:=hx; exact ⟨.cons (by simp only [VR]; exact ⟨y,rfl,hr⟩) .nil,.inl rfl⟩
 all_goals subst hx; exact ⟨.cons (by simp only [VR]) .nil,.inl rfl⟩
def setSeg (cs:List AV) (off:Nat) (new:List AV):List AV:=cs.take off ++ new ++ cs.drop (off + new.length)
def fillV (place:Nat→Option (Nat×Nat)) (cells:List AV):List (Nat×AV)→Option (List AV)
 | []=>some cells
 | (i,v) :: rest=>
  match place i,cellsV v with
  | some (off,size),some cs=>if cs.length = size∧off + size≤cells.length then fillV place (setSeg cells off cs) rest else none
  | _,_=>none
theorem setSeg_length {cs new:List AV} {off:Nat} (h:off + new.length≤cs.length):(setSeg cs off new).length = cs.length:=by
 simp [setSeg]; omega
theorem foldl_set_toList (new:List Value):∀ (off k:Nat) (arr:Array Value),off + k + new.length≤arr.size →
  ((new.zipIdx k).foldl (fun cs (c,j)=>cs.setIfInBounds (off + j) c) arr).toList = arr.toList.take (off + k) ++ new ++ arr.toList.drop (off + k + new.length):=by
 induction new with
 | nil=>intro off k arr h; simp
 | cons c new ih=>
  intro off k arr h
  simp only [List.zipIdx_cons,List.foldl_cons]
  simp only [List.length_cons] at h
  rw [ih off (k + 1) _ (by simp; omega)]
  simp only [Array.toList_setIfInBounds,List.length_cons]
  have hlt:off + k < arr.toList.length:=by simp; omega
  rw [show off + (k + 1) = off + k + 1 by omega,List.take_set,List.drop_set]
  rw [if_pos (by omega)]
  rw [List.take_succ_eq_append_getElem hlt,List.set_append]
  simp [Nat.min_eq_left (Nat.le_of_lt (by simpa using hlt))]
  congr 1
  omega
theorem VRL.setSeg {C:Ctx} {cs new:List AV} {vs nv:List Value} {off:Nat} (h:VRL C cs vs) (hn:VRL C new nv):VRL C (setSeg cs off new) (vs.take off ++ nv ++ vs.drop (off + nv.length)):=by
 unfold AL.setSeg
 rw [hn.length]
 exact ((h.take off).append hn).append (h.drop _)
def VRP (C:Ctx):List (Nat×AV)→List (Nat×Value)→Prop
 | [],[]=>True
 | (i,x) :: xs,(j,v) :: vs=>i = j∧VR C x v∧VRP C xs vs
 | _,_=>False
theorem fillV_sound {C:Ctx} {place:Nat→Option (Nat×Nat)}:∀ {parts:List (Nat×AV)} {vparts:List (Nat×Value)} {cells r:List AV} {vcells:Array Value},
  fillV place cells parts = some r→VRP C parts vparts→VRL C cells vcells.toList→∃ rv,Instr.fill place vcells vparts = some rv∧VRL C r rv.toList:=by
 intro parts
 induction parts with
 | nil=>
  intro vparts cells r vcells h hp hc
  cases vparts with
  | cons _ _=>exact hp.elim
  | nil=>simp only [fillV] at h; injection h with h; subst h; exact ⟨vcells,by simp [Instr.fill],hc⟩
 | cons p parts ih=>
  intro vparts cells r vcells h hp hc
  cases vparts with
  | nil=>exact hp.elim
  | cons q vparts=>
   obtain ⟨i,x⟩:=p
   obtain ⟨j,v⟩:=q
   obtain ⟨rfl,hx,hp⟩:=hp
   simp only [fillV] at h
   split at h
   ·rename_i off size cs hpl hcs
    split at h
    ·rename_i hle
     obtain ⟨hl,_⟩:=cellsV_sound hcs hx
     have hlen:=hl.length
     have hlen':=hc.length
     simp only [Array.length_toList] at hlen hlen'
     have hset:=foldl_set_toList v.cells.toList off 0 vcells (by simp; omega)
     obtain ⟨rv,hr,hrv⟩:=ih (vcells:=(v.cells.toList.zipIdx 0).foldl (fun cs (c,j)=>cs.setIfInBounds (off + j) c) vcells) h hp (by
      rw [hset]
      simp only [Nat.add_zero]
      exact hc.setSeg hl)
     refine ⟨rv,?_,hrv⟩
     simp only [Instr.fill,hpl]
     rw [if_neg (by simp; omega)]
     rw [← hr]
     congr 1
     rw [← Array.foldl_toList,Array.toList_zipIdx]
    ·cases h
   ·cases h
def buildV (P:Program) (t:TypeId) (parts:List (Nat×AV)):Option AV:=
 match zeroT P t with
 | some (.agg zs)=>match P.underlying t with
  | some (.struct fields)=>if fields.toList.all (fun f=>(sizeT P f.type).isSome) then
    (fillV (fun i=>(fields[i]?).bind fun f=>(sizeT P f.type).map fun s=>(f.offset,s)) zs parts).map .agg else none
  | some (.array _ e)=>match sizeT P e with
   | some s=>(fillV (fun i=>some (i * s,s)) zs parts).map .agg
   | none=>none
  | _=>none
 | _=>none
theorem run_places {w:World} (fields:Array Field) (h:fields.toList.all (fun f=>(sizeT P f.type).isSome) = true) :
  (fields.mapM fun f=>(do pure (f.offset,← sizeOf f.type):Sem (Nat×Nat))).run P w = .ok (fields.map fun f=>(f.offset,(sizeT P f.type).getD 0)) w:=by
 rw [Array.mapM_eq_mapM_toList]
 have:∀ l:List Field,l.all (fun f=>(sizeT P f.type).isSome) = true →
   (l.mapM fun f=>(do pure (f.offset,← sizeOf f.type):Sem (Nat×Nat))).run P w = .ok (l.map fun f=>(f.offset,(sizeT P f.type).getD 0)) w:=by
  intro l
  induction l with
  | nil=>intro _; simp
  | cons f l ih=>
   intro h
   simp only [List.all_cons,Bool.and_eq_true] at h
   obtain ⟨n,hn⟩:=Option.isSome_iff_exists.1 h.1
   simp only [List.mapM_cons,Sem.run_bind,run_sizeOf_ok hn,Result.andThen_ok,Sem.run_pure,ih h.2,hn,List.map_cons,Option.getD_some]
 simp only [Sem.run_map,this fields.toList h,Result.andThen_ok]
 rw [← Array.toList_map]
theorem buildV_sound {C:Ctx} {t:TypeId} {parts:List (Nat×AV)} {vparts:Array (Nat×Value)} {v:AV} (hb:buildV P t parts = some v) (hp:VRP C parts vparts.toList) :
  ∃ v',(Instr.build t vparts).run P C.w = .ok v' C.w∧VR C v v':=by
 unfold buildV at hb
 split at hb
 ·rename_i zs hz
  obtain ⟨zv,_,hzr,hzv⟩:=run_zeroValue_ok (P:=P) (w:=C.w) hz
  have hzC:=hzv C
  simp only [VR] at hzC
  obtain ⟨za,rfl,hzl⟩:=hzC
  split at hb
  ·rename_i fields ht
   split at hb
   ·rename_i hall
    obtain ⟨r,hf,rfl⟩:=Option.map_eq_some_iff.1 hb
    obtain ⟨rv,hr,hrv⟩:=fillV_sound hf hp hzl
    refine ⟨.agg rv,?_,by simp only [VR]; exact ⟨rv,rfl,hrv⟩⟩
    have hplace:(fun (i:Nat)=>(fields.map fun (f:Field)=>(f.offset,(sizeT P f.type).getD 0))[i]?) = fun (i:Nat)=>(fields[i]?).bind fun (f:Field)=>(sizeT P f.type).map fun s=>(f.offset,s):=by
     funext i
     rw [Array.getElem?_map]
     cases hfi:fields[i]? with
     | none=>rfl
     | some f=>
      have:(sizeT P f.type).isSome = true:=by
       have:=List.all_eq_true.1 hall f (by rw [Array.mem_toList_iff]; exact Array.mem_of_getElem? hfi)
       exact this
      obtain ⟨n,hn⟩:=Option.isSome_iff_exists.1 this
      simp [hn]
    simp only [Instr.build,Sem.run_bind,hzr,Result.andThen_ok,run_underlying_ok ht,run_places fields hall,Value.cells,hplace,hr,Sem.run_pure]
   ·cases hb
  ·rename_i n e ht
   split at hb
   ·rename_i s hs
    obtain ⟨r,hf,rfl⟩:=Option.map_eq_some_iff.1 hb
    obtain ⟨rv,hr,hrv⟩:=fillV_sound hf hp hzl
    refine ⟨.agg rv,?_,by simp only [VR]; exact ⟨rv,rfl,hrv⟩⟩
    simp only [Instr.build,Sem.run_bind,hzr,Result.andThen_ok,run_underlying_ok ht,run_sizeOf_ok hs,Value.cells,hr,Sem.run_pure]
   ·cases hb
  ·cases hb
 ·cases hb
end Go.AL
namespace Go.AL
open Go
variable {P:Program}
def lenV (P:Program) (h:List ABlk) (t:TypeId) (x:AV):Option AV:=
 match P.underlying t with
 | some .string=>match x with | .str s=>some (.int .i64 s.size) | _=>none
 | some (.array n _)=>some (.int .i64 n)
 | some (.slice _)=>match x with
  | .nils=>some (.int .i64 0)
  | .sl _ xs _=>some (.int .i64 xs.length)
  | .hsl _ _ _ len _=>some (.int .i64 len)
  | _=>none
 | some (.map _ _)=>match x with
  | .nilm=>some (.int .i64 0)
  | .map b=>(mapAt h b).map fun es=>.int .i64 es.length
  | _=>none
 | _=>none
theorem lenV_sound {C:Ctx} {h:List ABlk} (hs:SR C h) {t:TypeId} {x v:AV} (hf:lenV P h t x = some v) {xv:Value} (hx:VR C x xv) (ats:Array TypeId) (hat:ats[0]? = some t) (ty:TypeId) :
  ∃ v',(Builtin.len_ ats ty #[xv]).run P C.w = .ok v' C.w∧VR C v v':=by
 unfold lenV at hf
 have ha:(#[xv]:Array Value)[0]? = some xv:=rfl
 split at hf
 ·rename_i ht
  split at hf
  ·injection hf with hf; subst hf
   simp only [VR] at hx; subst hx
   exact ⟨_,by simp [Builtin.len_,hat,run_underlying_ok ht,goInt]; rfl,by simp only [VR]⟩
  ·cases hf
 ·rename_i n e ht
  injection hf with hf; subst hf
  refine ⟨.int .i64 n,?_,by simp only [VR]⟩
  cases xv <;> simp [Builtin.len_,hat,run_underlying_ok ht,goInt]
 ·rename_i e ht
  split at hf
  ·injection hf with hf; subst hf
   simp only [VR] at hx; subst hx
   exact ⟨_,by simp [Builtin.len_,hat,run_underlying_ok ht,goInt]; rfl,by simp only [VR]⟩
  ·injection hf with hf; subst hf
   simp only [VR] at hx; obtain ⟨a,c,vs,rfl,_⟩:=hx
   exact ⟨_,by simp [Builtin.len_,hat,run_underlying_ok ht,goInt]; rfl,by simp only [VR]⟩
  ·injection hf with hf; subst hf
   simp only [VR] at hx; obtain ⟨_,a,c,rfl,_⟩:=hx
   exact ⟨_,by simp [Builtin.len_,hat,run_underlying_ok ht,goInt]; rfl,by simp only [VR]⟩
  ·cases hf
 ·rename_i k e ht
  split at hf
  ·injection hf with hf; subst hf
   simp only [VR] at hx; subst hx
   exact ⟨_,by simp [Builtin.len_,hat,run_underlying_ok ht,goInt]; rfl,by simp only [VR]⟩
  ·obtain ⟨es,he,rfl⟩:=Option.map_eq_some_iff.1 hf
   obtain ⟨_,l,arr,clock,h1,h2,rfl,h3,h4,_⟩:=mapAt_spec hs he hx
   have hlen:=h4.length
   simp at hlen
   exact ⟨.int .i64 arr.size,by simp [Builtin.len_,hat,run_underlying_ok ht,goInt,getObj,Sem.run,h3],by simp only [VR]; rw [hlen]⟩
  ·cases hf
 ·cases hf
def capV (P:Program) (t:TypeId) (x:AV):Option AV:=
 match P.underlying t with
 | some (.slice _)=>match x with
  | .nils=>some (.int .i64 0)
  | .sl _ _ (some c)=>some (.int .i64 c)
  | .hsl _ _ _ _ (some c)=>some (.int .i64 c)
  | _=>none
 | _=>none
theorem capV_sound {C:Ctx} {t:TypeId} {x v:AV} (hf:capV P t x = some v) {xv:Value} (hx:VR C x xv) (ats:Array TypeId) (hat:ats[0]? = some t) (ty:TypeId) :
  ∃ v',(Builtin.cap_ ats ty #[xv]).run P C.w = .ok v' C.w∧VR C v v':=by
 unfold capV at hf
 have ha:(#[xv]:Array Value)[0]? = some xv:=rfl
 split at hf
 ·rename_i e ht
  split at hf
  ·injection hf with hf; subst hf
   simp only [VR] at hx; subst hx
   exact ⟨_,by simp [Builtin.cap_,hat,run_underlying_ok ht,goInt]; rfl,by simp only [VR]⟩
  ·injection hf with hf; subst hf
   simp only [VR] at hx; obtain ⟨a,c,vs,rfl,_,hc,_⟩:=hx
   have:=hc _ rfl; subst this
   exact ⟨_,by simp [Builtin.cap_,hat,run_underlying_ok ht,goInt]; rfl,by simp only [VR]⟩
  ·injection hf with hf; subst hf
   simp only [VR] at hx; obtain ⟨_,a,c,rfl,_,hc,_⟩:=hx
   have:=hc _ rfl; subst this
   exact ⟨_,by simp [Builtin.cap_,hat,run_underlying_ok ht,goInt]; rfl,by simp only [VR]⟩
  ·cases hf
 ·cases hf
def unV (op:UnOp):AV→Option AV
 | .bool b=>match op with | .not=>some (.bool !b) | _=>none
 | .int k n=>match op with
  | .neg=>some (.int k (k.wrap (0 - n)))
  | .xor=>some (.int k (k.wrap ((BitVec.ofInt k.bits (if k.signed then -1 else k.max) ^^^ BitVec.ofInt k.bits n).toNat:Int)))
  | _=>none
 | _=>none
theorem unV_sound {C:Ctx} {w:World} {op:UnOp} {x v:AV} (hf:unV op x = some v) {xv:Value} (hx:VR C x xv):∃ v',(Op.unary op xv).run P w = .ok v' w∧VR C v v':=by
 unfold unV at hf
 split at hf
 ·simp only [VR] at hx; subst hx
  split at hf <;> cases hf
  exact ⟨_,rfl,by simp only [VR]⟩
 ·simp only [VR] at hx; subst hx
  split at hf <;> cases hf
  ·exact ⟨.int _ _,by simp only [Op.unary,Op.intArith,Sem.run_pure] <;> rfl,by simp only [VR] <;> rfl⟩
  ·exact ⟨.int _ _,by simp only [Op.unary,Op.intBits,Sem.run_pure] <;> rfl,by simp only [VR] <;> rfl⟩
 ·cases hf
def convV (P:Program) (src dst:TypeId) (x:AV):Option AV:=
 match P.underlying src,P.underlying dst with
 | some _,some (.int k)=>match x with | .int _ n=>some (.int k (k.wrap n)) | _=>none
 | some .string,some .string=>match x with | .str s=>some (.str s) | _=>none
 | _,_=>none
theorem convV_sound {C:Ctx} {w:World} {src dst:TypeId} {x v:AV} (hf:convV P src dst x = some v) {xv:Value} (hx:VR C x xv):∃ v',(convert src dst xv).run P w = .ok v' w∧VR C v v':=by
 unfold convV at hf
 split at hf
 ·rename_i d k h1 h2
  split at hf
  ·injection hf with hf; subst hf
   simp only [VR] at hx; subst hx
   exact ⟨_,by simp [convert,run_underlying_ok h1,run_underlying_ok h2,Conv.intToInt]; rfl,by simp only [VR]⟩
  ·cases hf
 ·rename_i h1 h2
  split at hf
  ·injection hf with hf; subst hf
   simp only [VR] at hx; subst hx
   exact ⟨_,by simp [convert,run_underlying_ok h1,run_underlying_ok h2]; rfl,by simp only [VR]⟩
  ·cases hf
 ·cases hf
def mm2 (mx:Bool):AV→AV→Option AV
 | .int k x,.int _ y=>some (.int k (if mx then (if y > x then y else x) else (if y < x then y else x)))
 | _,_=>none
def mmV (mx:Bool):List AV→Option AV
 | []=>none
 | x :: rest=>rest.foldlM (mm2 mx) x
theorem mmV_sound {C:Ctx} {w:World} {xs:List AV} {v:AV} {vs:List Value} (mx:Bool) (hf:mmV mx xs = some v) (hx:VRL C xs vs) (at_:Array TypeId) (ty:TypeId) :
  ∃ v',((if mx then Builtin.max_ at_ ty vs.toArray else Builtin.min_ at_ ty vs.toArray):Sem Value).run P w = .ok v' w∧VR C v v':=by
 cases xs with
 | nil=>simp [mmV] at hf
 | cons x rest=>
  simp only [VRL] at hx
  obtain ⟨y,ys,rfl,h1,h2⟩:=hx
  simp only [mmV] at hf
  have key:∀ (rest:List AV) (ys:List Value) (x:AV) (y:Value),rest.foldlM (mm2 mx) x = some v→VR C x y→VRL C rest ys →
    ∃ v',((if mx then ys.foldlM Builtin.max2 y else ys.foldlM Builtin.min2 y):Sem Value).run P w = .ok v' w∧VR C v v':=by
   intro rest
   induction rest with
   | nil=>intro ys x y h hx hl; simp only [VRL] at hl; subst hl; simp at h; subst h; exact ⟨y,by cases mx <;> simp,hx⟩
   | cons z rest ih=>
    intro ys x y h hx hl
    simp only [VRL] at hl
    obtain ⟨zv,zs,rfl,hz,hl⟩:=hl
    simp only [List.foldlM_cons] at h
    obtain ⟨u,hu,hrest⟩:=Option.bind_eq_some_iff.1 h
    unfold mm2 at hu
    split at hu
    ·rename_i k a k' b
     injection hu with hu
     simp only [VR] at hx hz
     subst hx hz
     obtain ⟨v',hr,hv⟩:=ih zs u (.int k (if mx then (if b > a then b else a) else (if b < a then b else a))) hrest (by subst hu; simp only [VR]) hl
     refine ⟨v',?_,hv⟩
     cases mx <;> simpa [List.foldlM_cons,Builtin.max2,Builtin.min2] using hr
    ·cases hu
  obtain ⟨v',hr,hv⟩:=key rest ys x y hf h1 h2
  refine ⟨v',?_,hv⟩
  cases mx <;> simpa [Builtin.max_,Builtin.min_] using hr
def indexV (P:Program) (t:TypeId) (x ix:AV):Option AV:=
 match ix with
 | .int _ i=>if i < 0 then none else
  match P.underlying t with
  | some (.array len e)=>match x,sizeT P e with
   | .agg cs,some n=>if i < len then partV P e cs (i.toNat * n) else none
   | _,_=>none
  | some .string=>match x with
   | .str s=>(s[i.toNat]?).map fun b=>.int .u8 b.toNat
   | _=>none
  | _=>none
 | _=>none
theorem indexV_sound {C:Ctx} {t:TypeId} {x ix v:AV} (hf:indexV P t x ix = some v) {xv iv:Value} (hx:VR C x xv) (hi:VR C ix iv):∃ v',(Instr.index t xv iv).run P C.w = .ok v' C.w∧VR C v v':=by
 unfold indexV at hf
 split at hf
 ·rename_i k i
  simp only [VR] at hi; subst hi
  split at hf
  ·cases hf
  ·rename_i hi0
   split at hf
   ·rename_i len e ht
    split at hf
    ·rename_i cs n hn
     simp only [VR] at hx
     obtain ⟨arr,rfl,hl⟩:=hx
     split at hf
     ·rename_i hlt
      obtain ⟨v',hr,hv⟩:=partV_sound (w:=C.w) hf hl
      exact ⟨v',by simp [Instr.index,asIntOf,run_underlying_ok ht,show 0≤i∧i < (len:Int) from ⟨by omega,hlt⟩,run_sizeOf_ok hn,hr],hv⟩
     ·cases hf
    ·cases hf
   ·rename_i ht
    split at hf
    ·rename_i s
     simp only [VR] at hx; subst hx
     obtain ⟨b,hb,rfl⟩:=Option.map_eq_some_iff.1 hf
     exact ⟨_,by simp [Instr.index,asIntOf,run_underlying_ok ht,show 0≤i by omega,hb]; rfl,by simp only [VR]⟩
    ·cases hf
   ·cases hf
 ·cases hf
def isConcreteT (P:Program) (t:TypeId):Bool:=
 match P.underlying t with
 | some (.interface _)=>false
 | some _=>true
 | none=>false
def assertV (P:Program) (x:AV) (t:TypeId) (ok:Bool):Option AV:=
 if isConcreteT P t then
  match x with
  | .iface u v=>if u = t then some (if ok then .tup [v,.bool true] else v)
   else if ok then (zeroT P t).map fun z=>.tup [z,.bool false] else none
  | .nili=>if ok then (zeroT P t).map fun z=>.tup [z,.bool false] else none
  | _=>none
 else none
theorem assertV_sound {C:Ctx} {x v:AV} {xt t:TypeId} {ok:Bool} (hf:assertV P x t ok = some v) {xv:Value} (hx:VR C x xv):∃ v',(Instr.typeAssert xv xt t ok).run P C.w = .ok v' C.w∧VR C v v':=by
 unfold assertV at hf
 split at hf
 ·rename_i hc
  unfold isConcreteT at hc
  split at hc
  ·cases hc
  ·rename_i d hni ht
   split at hf
   ·rename_i u y
    simp only [VR] at hx
    obtain ⟨yv,rfl,hy⟩:=hx
    split at hf
    ·rename_i hu
     subst hu
     injection hf with hf
     cases ok
     ·simp at hf; subst hf
      exact ⟨yv,by cases d <;> simp_all [Instr.typeAssert,run_underlying_ok ht],hy⟩
     ·simp at hf; subst hf
      exact ⟨.tuple #[yv,.bool true],by cases d <;> simp_all [Instr.typeAssert,run_underlying_ok ht],by simp only [VR]; exact ⟨_,rfl,.cons hy (.cons (by simp only [VR]) .nil)⟩⟩
    ·rename_i hu
     cases ok
     ·simp at hf
     ·simp at hf
      obtain ⟨z,hz,rfl⟩:=hf
      obtain ⟨zv,_,hzr,hzv⟩:=run_zeroValue_ok (P:=P) (w:=C.w) hz
      exact ⟨.tuple #[zv,.bool false],by cases d <;> simp_all [Instr.typeAssert,run_underlying_ok ht],by simp only [VR]; exact ⟨_,rfl,.cons (hzv C) (.cons (by simp only [VR]) .nil)⟩⟩
   ·simp only [VR] at hx; subst hx
    cases ok
    ·simp at hf
    ·simp at hf
     obtain ⟨z,hz,rfl⟩:=hf
     obtain ⟨zv,_,hzr,hzv⟩:=run_zeroValue_ok (P:=P) (w:=C.w) hz
     exact ⟨.tuple #[zv,.bool false],by cases d <;> simp_all [Instr.typeAssert,run_underlying_ok ht],by simp only [VR]; exact ⟨_,rfl,.cons (hzv C) (.cons (by simp only [VR]) .nil)⟩⟩
   ·cases hf
  ·cases hc
 ·cases hf
end Go.AL
namespace Go.AL
open Go
variable {P:Program}
def ckElemsW (P:Program) (f:AV→Bool) (e:TypeId) (n:Nat) (xs:List AV):Nat→Nat→Bool
 | 0,_=>true
 | len + 1,i=>match partV P e xs (i * n) with
  | some a=>f a && ckElemsW P f e n xs len (i + 1)
  | none=>false
def ckFieldsW (P:Program) (f:TypeId→AV→Bool) (xs:List AV):List Field→Bool
 | []=>true
 | fd :: fs=>
  if fd.name ≠ "_" then
   match partV P fd.type xs fd.offset with
   | some a=>f fd.type a && ckFieldsW P f xs fs
   | none=>false
  else ckFieldsW P f xs fs
def ckV (P:Program):Nat→TypeId→AV→Bool
 | 0,_,_=>false
 | d + 1,t,x=>
  match P.underlying t with
  | some .bool | some (.int _) | some .string | some (.pointer _)=>true
  | some (.array len e)=>match x with
   | .agg xs=>match sizeT P e with
    | some n=>ckElemsW P (fun a=>ckV P d e a) e n xs len 0
    | none=>false
   | _=>false
  | some (.struct fs)=>match x with
   | .agg xs=>ckFieldsW P (fun t a=>ckV P d t a) xs fs.toList
   | _=>false
  | _=>false
abbrev ckElemsV (P:Program) (d:Nat) (e:TypeId) (n:Nat) (xs:List AV) (len i:Nat):Bool:=ckElemsW P (fun a=>ckV P d e a) e n xs len i
abbrev ckFieldsV (P:Program) (d:Nat) (xs:List AV) (fs:List Field):Bool:=ckFieldsW P (fun t a=>ckV P d t a) xs fs
theorem run_ckElems {C:Ctx} {w:World} {d:Nat} {e:TypeId} {n:Nat} {xs:List AV} {ax:Array Value} {em:Bool} (hx:VRL C xs ax.toList) (hn:sizeT P e = some n)
  (ih:∀ (x:AV) (xv:Value),ckV P d e x = true→VR C x xv→(Instr.checkKey em d e xv).run P w = .ok () w) (len:Nat) :
  ∀ (i:Nat),ckElemsV P d e n xs len i = true →
  ((forIn (List.range' i len) () fun i (_:PUnit)=>(do
    Instr.checkKey em d e (← part e ax (i * (← sizeOf e))); pure (ForInStep.yield ()):Sem _)).run P w) = .ok () w:=by
 induction len with
 | zero=>intro i h; simp
 | succ len ihl=>
  intro i h
  simp only [ckElemsV,ckElemsW] at h
  split at h
  ·rename_i a ha
   simp only [Bool.and_eq_true] at h
   obtain ⟨av,hra,hva⟩:=partV_sound (w:=w) ha hx
   simp only [List.range'_succ,List.forIn_cons,Sem.run_bind,run_sizeOf_ok hn,hra,Result.andThen_ok,ih _ _ h.1 hva,Sem.run_pure]
   have:=ihl (i + 1) h.2
   simpa only [Sem.run_bind] using this
  ·cases h
theorem run_ckFields {C:Ctx} {w:World} {d:Nat} {xs:List AV} {ax:Array Value} {em:Bool} (hx:VRL C xs ax.toList)
  (ih:∀ (t:TypeId) (x:AV) (xv:Value),ckV P d t x = true→VR C x xv→(Instr.checkKey em d t xv).run P w = .ok () w) :
  ∀ (fs:List Field),ckFieldsV P d xs fs = true →
  ((forIn fs () fun (f:Field) (_:PUnit)=>(do
    if f.name ≠ "_" then Instr.checkKey em d f.type (← part f.type ax f.offset); pure (ForInStep.yield ()) else pure (ForInStep.yield ()) : Sem _)).run P w) = .ok () w := by
 intro fs
 induction fs with
 | nil=>intro h; simp
 | cons f fs ihf=>
  intro h
  simp only [ckFieldsV,ckFieldsW] at h
  split at h
  ·rename_i hne
   split at h
   ·rename_i a ha
    simp only [Bool.and_eq_true] at h
    obtain ⟨av,hra,hva⟩:=partV_sound (w:=w) ha hx
    simp only [List.forIn_cons,if_pos hne,Sem.run_bind,hra,Result.andThen_ok,ih _ _ _ h.1 hva,Sem.run_pure]
    have:=ihf h.2
    simpa only [Sem.run_bind] using this
   ·cases h
  ·rename_i hne
   simp only [List.forIn_cons,if_neg hne,Sem.run_bind,Result.andThen_ok,Sem.run_pure]
   exact ihf h
theorem ckV_sound {C:Ctx} {w:World} {em:Bool}:∀ (d:Nat) (t:TypeId) (x:AV) (xv:Value),ckV P d t x = true→VR C x xv→(Instr.checkKey em d t xv).run P w = .ok () w:=by
 intro d
 induction d with
 | zero=>intro t x xv h; simp [ckV] at h
 | succ d ih=>
  intro t x xv h hx
  unfold ckV at h
  split at h
  ·rename_i ht; simp [Instr.checkKey,run_underlying_ok ht]
  ·rename_i ht; simp [Instr.checkKey,run_underlying_ok ht]
  ·rename_i ht; simp [Instr.checkKey,run_underlying_ok ht]
  ·rename_i ht; simp [Instr.checkKey,run_underlying_ok ht]
  ·rename_i len e ht
   split at h
   ·rename_i xs
    split at h
    ·rename_i n hn
     simp only [VR] at hx
     obtain ⟨ax,rfl,hx⟩:=hx
     have:=run_ckElems (P:=P) (w:=w) (em:=em) (n:=n) hx hn (ih e) len 0 h
     simp only [Instr.checkKey,Sem.run_bind,run_underlying_ok ht,Result.andThen_ok,Std.Legacy.Range.forIn_eq_forIn_range',Std.Legacy.Range.size]
     rw [show (len - 0 + 1 - 1) / 1 = len by omega]
     rw [this]; simp
    ·cases h
   ·cases h
  ·rename_i fs ht
   split at h
   ·rename_i xs
    simp only [VR] at hx
    obtain ⟨ax,rfl,hx⟩:=hx
    have:=run_ckFields (P:=P) (w:=w) (em:=em) hx ih fs.toList h
    simp only [Instr.checkKey,Sem.run_bind,run_underlying_ok ht,Result.andThen_ok]
    rw [← Array.forIn_toList]
    rw [this]; simp
   ·cases h
  ·cases h
def findV (P:Program) (kt:TypeId) (k:AV):List (AV×AV)→Nat→Option (Option (Nat×AV))
 | [],_=>some none
 | (k',v) :: es,i=>match eqIn P 10000 kt k k' with
  | some true=>some (some (i,v))
  | some false=>findV P kt k es (i + 1)
  | none=>none
def FindR (C:Ctx):Option (Nat×AV)→Option (Nat×Value)→Prop
 | none,none=>True
 | some (i,x),some (j,v)=>i = j∧VR C x v
 | _,_=>False
theorem findAsking_sound {C:Ctx} {w:World} {kt:TypeId} {k:AV} {kv:Value} (hk:VR C k kv):∀ (es:List (AV×AV)) (ents:List MapEntry) (i:Nat) (r:Option (Nat×AV)),
  findV P kt k es i = some r→VRL C (es.map (·.1)) (ents.map (·.key))→VRL C (es.map (·.2)) (ents.map (·.val))→∃ r',(Instr.findAsking kt kv ents i).run P w = .ok r' w∧FindR C r r':=by
 intro es
 induction es with
 | nil=>
  intro ents i r h h1 h2
  cases ents with
  | nil=>simp only [findV] at h; injection h with h; subst h; exact ⟨none,by simp [Instr.findAsking],trivial⟩
  | cons e ents=>have:=h1.length; simp at this
 | cons e es ih=>
  intro ents i r h h1 h2
  cases ents with
  | nil=>have:=h1.length; simp at this
  | cons ent ents=>
   obtain ⟨k',v⟩:=e
   simp only [List.map_cons] at h1 h2
   obtain ⟨h1a,h1b⟩:=h1.of_cons
   obtain ⟨h2a,h2b⟩:=h2.of_cons
   simp only [findV] at h
   split at h
   ·rename_i he
    injection h with h; subst h
    have:=eqIn_sound (w:=w) 10000 kt k k' true kv ent.key he hk h1a
    exact ⟨some (i,ent.val),by simp only [Instr.findAsking,Op.equal,Op.maxDepth,Sem.run_bind,this,Result.andThen_ok,if_true,Sem.run_pure],rfl,h2a⟩
   ·rename_i he
    have:=eqIn_sound (w:=w) 10000 kt k k' false kv ent.key he hk h1a
    obtain ⟨r',hr,hf⟩:=ih ents (i + 1) r h h1b h2b
    exact ⟨r',by simp only [Instr.findAsking,Op.equal,Op.maxDepth,Sem.run_bind,this,Result.andThen_ok,Bool.false_eq_true,if_false,hr],hf⟩
   ·cases h
theorem sameNow_eq {C:Ctx} {kt:TypeId} {kind:TypeDesc} (ht:P.underlying kt = some kind) {k k':AV} {kv kv':Value} {b b':Bool} (he:eqIn P 10000 kt k k' = some b) (hk:VR C k kv) (hk':VR C k' kv')
  (hn:Instr.sameNow kind kv kv' = some b'):b' = b:=by
 have hr:=eqIn_sound (w:=C.w) 10000 kt k k' b kv kv' he hk hk'
 unfold Instr.sameNow at hn
 split at hn
 ·split at hn
  ·rename_i hkk
   subst hkk
   injection hn with hn
   rw [show (10000:Nat) = 9999 + 1 from rfl,run_equalIn_int C.w 9999 kt _ _ _ _ ht] at hr
   injection hr with hr
   rw [← hn,hr]
  ·cases hn
 ·injection hn with hn
  rw [show (10000:Nat) = 9999 + 1 from rfl,run_equalIn_string C.w 9999 kt _ _ ht] at hr
  injection hr with hr
  rw [← hn,beq_toListBytes,hr]
 ·injection hn with hn
  rw [show (10000:Nat) = 9999 + 1 from rfl,run_equalIn_bool C.w 9999 kt _ _ ht] at hr
  injection hr with hr
  rw [← hn,hr]
 ·cases hn
theorem findNow_sound {C:Ctx} {kt:TypeId} {kind:TypeDesc} (ht:P.underlying kt = some kind) {k:AV} {kv:Value} (hk:VR C k kv):∀ (es:List (AV×AV)) (ents:List MapEntry) (i:Nat) (r:Option (Nat×AV)) (r':Option (Nat×Value)),
  findV P kt k es i = some r→VRL C (es.map (·.1)) (ents.map (·.key))→VRL C (es.map (·.2)) (ents.map (·.val))→Instr.findNow kind kv ents i = some r'→FindR C r r':=by
 intro es
 induction es with
 | nil=>
  intro ents i r r' h h1 h2 hn
  cases ents with
  | nil=>simp only [findV] at h; injection h with h; subst h; simp only [Instr.findNow] at hn; injection hn with hn; subst hn; trivial
  | cons e ents=>have:=h1.length; simp at this
 | cons e es ih=>
  intro ents i r r' h h1 h2 hn
  cases ents with
  | nil=>have:=h1.length; simp at this
  | cons ent ents=>
   obtain ⟨k',v⟩:=e
   simp only [List.map_cons] at h1 h2
   obtain ⟨h1a,h1b⟩:=h1.of_cons
   obtain ⟨h2a,h2b⟩:=h2.of_cons
   simp only [findV] at h
   simp only [Instr.findNow] at hn
   split at h
   ·rename_i he
    injection h with h; subst h
    split at hn
    ·injection hn with hn; subst hn; exact ⟨rfl,h2a⟩
    ·rename_i hs; have:=sameNow_eq ht he hk h1a hs; cases this
    ·cases hn
   ·rename_i he
    split at hn
    ·rename_i hs; have:=sameNow_eq ht he hk h1a hs; cases this
    ·exact ih ents (i + 1) r r' h h1b h2b hn
    ·cases hn
   ·cases h
theorem findKey_sound {C:Ctx} {kt:TypeId} {kind:TypeDesc} (ht:P.underlying kt = some kind) {k:AV} {kv:Value} (hk:VR C k kv) {es:List (AV×AV)} {ents:List MapEntry} {r:Option (Nat×AV)}
  (h:findV P kt k es 0 = some r) (h1:VRL C (es.map (·.1)) (ents.map (·.key))) (h2:VRL C (es.map (·.2)) (ents.map (·.val))) {w:World}:∃ r',(Instr.findKey kt kv ents).run P w = .ok r' w∧FindR C r r':=by
 unfold Instr.findKey
 simp only [Sem.run_bind,run_underlying_ok ht,Result.andThen_ok]
 split
 ·rename_i r' hn
  exact ⟨r',rfl,findNow_sound ht hk es ents 0 r r' h h1 h2 hn⟩
 ·exact findAsking_sound hk es ents 0 r h h1 h2
def entriesV (h:List ABlk):AV→Option (List (AV×AV))
 | .nilm=>some []
 | .map b=>mapAt h b
 | _=>none
def lookupV (P:Program) (h:List ABlk) (t:TypeId) (x ix:AV) (ok:Bool):Option AV:=
 match P.underlying t with
 | some (.map kt et)=>
  match entriesV h x,P.underlying kt with
  | some es,some _=>if ckV P 10000 kt ix then match findV P kt ix es 0 with
   | some (some (_,v))=>some (if ok then .tup [v,.bool true] else v)
   | some none=>(zeroT P et).map fun z=>if ok then .tup [z,.bool false] else z
   | none=>none
   else none
  | _,_=>none
 | _=>none
theorem lookupV_sound {C:Ctx} {h:List ABlk} (hs:SR C h) {t:TypeId} {x ix v:AV} {ok:Bool} (hf:lookupV P h t x ix ok = some v) {xv iv:Value} (hx:VR C x xv) (hi:VR C ix iv) :
  ∃ v',(Instr.lookup t xv iv ok).run P C.w = .ok v' C.w∧VR C v v':=by
 unfold lookupV at hf
 split at hf
 ·rename_i kt et ht
  split at hf
  ·rename_i es kind hes hkt
   split at hf
   ·rename_i hck
    have hents:∃ ents:Array MapEntry,(xv = .map none∧ents = #[] ∨ ∃ r clock,xv = .map (some r)∧C.w.heap[r]? = some (.map ents clock)) ∧
      VRL C (es.map (·.1)) (ents.toList.map (·.key))∧VRL C (es.map (·.2)) (ents.toList.map (·.val)):=by
     unfold entriesV at hes
     split at hes
     ·injection hes with hes; subst hes
      simp only [VR] at hx
      exact ⟨#[],.inl ⟨hx,rfl⟩,.nil,.nil⟩
     ·obtain ⟨_,l,arr,clock,h1,h2,rfl,h3,h4,h5,_⟩:=mapAt_spec hs hes hx
      exact ⟨arr,.inr ⟨_,clock,rfl,h3⟩,h4,h5⟩
     ·cases hes
    obtain ⟨ents,hm,h1,h2⟩:=hents
    have hrest:∀ v,(match findV P kt ix es 0 with
      | some (some (_,v))=>some (if ok then AV.tup [v,.bool true] else v)
      | some none=>(zeroT P et).map fun z=>if ok then AV.tup [z,.bool false] else z
      | none=>none) = some v→∃ v',(do
       Instr.checkKey ents.isEmpty 10000 kt iv
       let (v,k) ← match ← Instr.findKey kt iv ents.toList with
        | some (_,v)=>pure (v,true)
        | none=>pure (← zeroValue et,false)
       pure (if ok then .tuple #[v,.bool k] else v):Sem Value).run P C.w = .ok v' C.w∧VR C v v':=by
     intro v hv
     split at hv
     ·rename_i j y hfind
      injection hv with hv
      obtain ⟨r',hr,hfr⟩:=findKey_sound (w:=C.w) hkt hi hfind h1 h2
      cases r' with
      | none=>exact hfr.elim
      | some p=>
       obtain ⟨j',y'⟩:=p
       obtain ⟨rfl,hy⟩:=hfr
       refine ⟨if ok then .tuple #[y',.bool true] else y',by simp [ckV_sound 10000 kt ix iv hck hi,hr],?_⟩
       subst hv
       cases ok
       ·simpa using hy
       ·simp only [if_true,VR]; exact ⟨_,rfl,.cons hy (.cons (by simp only [VR]) .nil)⟩
     ·rename_i hfind
      obtain ⟨z,hz,hv⟩:=Option.map_eq_some_iff.1 hv
      obtain ⟨zv,_,hzr,hzv⟩:=run_zeroValue_ok (P:=P) (w:=C.w) hz
      obtain ⟨r',hr,hfr⟩:=findKey_sound (w:=C.w) hkt hi hfind h1 h2
      cases r' with
      | some p=>exact hfr.elim
      | none=>
       refine ⟨if ok then .tuple #[zv,.bool false] else zv,by simp [ckV_sound 10000 kt ix iv hck hi,hr,hzr],?_⟩
       subst hv
       cases ok
       ·simpa using hzv C
       ·simp only [if_true,VR]; exact ⟨_,rfl,.cons (hzv C) (.cons (by simp only [VR]) .nil)⟩
     ·cases hv
    obtain ⟨v',hr,hv⟩:=hrest v hf
    refine ⟨v',?_,hv⟩
    rcases hm with ⟨rfl,rfl⟩ | ⟨r,clock,rfl,hh⟩
    ·refine Eq.trans ?_ hr
     simp only [Instr.lookup,Sem.run_bind,run_underlying_ok ht,Result.andThen_ok,Sem.run_pure]
     rfl
    ·refine Eq.trans ?_ hr
     simp only [Instr.lookup,Sem.run_bind,run_underlying_ok ht,Result.andThen_ok,Sem.run_pure,show (getObj r).run P C.w = .ok (.map ents clock) C.w by simp [getObj,Sem.run,hh]]
     rfl
   ·cases hf
  ·cases hf
 ·cases hf
end Go.AL
namespace Go.AL
open Go
variable {P:Program}
def lenW (P:Program) (h:List ABlk) (t:TypeId):AV→Option AV
 | .vw sz xs=>lenV P h t (.sl sz xs none)
 | x=>lenV P h t x
theorem lenW_sound {C:Ctx} {h:List ABlk} (hs:SR C h) {t:TypeId} {x v:AV} (hf:lenW P h t x = some v) {xv:Value} (hx:VR C x xv) (ats:Array TypeId) (hat:ats[0]? = some t) (ty:TypeId) :
  ∃ v',(Builtin.len_ ats ty #[xv]).run P C.w = .ok v' C.w∧VR C v v':=by
 cases x with
 | vw sz xs=>
  simp only [lenW] at hf
  rcases hx.vw with ⟨rfl,rfl⟩ | hx
  ·have:lenV P h t .nils = some v:=by
    rw [← hf]
    unfold lenV
    split <;> simp_all
   exact lenV_sound hs this (by simp only [VR]) ats hat ty
  ·exact lenV_sound hs hf hx ats hat ty
 | _=>simp only [lenW] at hf; exact lenV_sound hs hf hx ats hat ty
def indexAddrW (P:Program) (h:List ABlk) (t:TypeId) (x i:AV):Option AV:=
 match x with
 | .vw sz xs=>indexAddrV P h t (.sl sz xs none) i
 | x=>indexAddrV P h t x i
theorem indexAddrW_sound {C:Ctx} {h:List ABlk} (hs:SR C h) {t:TypeId} {x ix v:AV} (hf:indexAddrW P h t x ix = some v) {xv iv:Value} (hx:VR C x xv) (hi:VR C ix iv) :
  ∃ v',(Instr.indexAt t xv iv).run P C.w = .ok v' C.w∧VR C v v':=by
 cases x with
 | vw sz xs=>
  simp only [indexAddrW] at hf
  rcases hx.vw with ⟨rfl,rfl⟩ | hx
  ·exfalso
   unfold indexAddrV at hf
   split at hf
   ·split at hf
    ·cases hf
    ·split at hf
     ·split at hf
      ·split at hf
       ·simp at hf
       ·cases hf
      ·cases hf
     ·split at hf
      ·simp at hf
      ·cases hf
     ·cases hf
   ·cases hf
  ·exact indexAddrV_sound hs hf hx hi
 | _=>simp only [indexAddrW] at hf; exact indexAddrV_sound hs hf hx hi
def sliceW (P:Program) (h:List ABlk) (t:TypeId) (x:AV) (lo hi mx:Option AV):Option AV:=
 match x with
 | .vw sz xs=>match sliceV P h t (.sl sz xs none) lo hi mx with
  | some (.sl sz' ys _)=>some (.vw sz' ys)
  | _=>none
 | x=>sliceV P h t x lo hi mx
theorem sliceW_sound {C:Ctx} {h:List ABlk} (hs:SR C h) {t:TypeId} {x v:AV} {lo hi mx:Option AV} (hf:sliceW P h t x lo hi mx = some v) {xv:Value} {vl vh vm:Option Value}
  (hx:VR C x xv) (hl:VRO C lo vl) (hh:VRO C hi vh) (hm:VRO C mx vm) :
  ∃ v',(Instr.sliceAt t xv vl vh vm).run P C.w = .ok v' C.w∧VR C v v':=by
 cases x with
 | vw sz xs=>
  simp only [sliceW] at hf
  split at hf
  ·rename_i sz' ys c hsl
   injection hf with hf; subst hf
   rcases hx.vw with ⟨rfl,rfl⟩ | hx
   ·have hnil:sliceV P h t .nils lo hi mx = some .nils∧ys = []:=by
     unfold sliceV at hsl ⊢
     cases hu:P.underlying t with
     | none=>simp [hu] at hsl
     | some d=>
      cases d with
      | slice e=>
       simp only [hu] at hsl ⊢
       cases hsz:sizeT P e with
       | none=>simp [hsz] at hsl
       | some k=>
        simp only [hsz] at hsl ⊢
        split at hsl
        ·obtain ⟨⟨l,h',m⟩,hb,hf⟩:=Option.bind_eq_some_iff.1 hsl
         simp only [List.length_nil,Option.getD_none] at hb
         simp only at hf
         split at hf
         ·injection hf with hf
          injection hf with _ e2 _
          exact ⟨by rw [hb]; rfl,by rw [← e2]; simp⟩
         ·cases hf
        ·cases hsl
      | _=>simp [hu] at hsl
    obtain ⟨v',h1,h2⟩:=sliceV_sound hs hnil.1 (xv:=.slice none 0 0) (by simp only [VR]) hl hh hm
    exact ⟨v',h1,by rw [hnil.2]; exact h2.nil_vw⟩
   ·obtain ⟨v',h1,h2⟩:=sliceV_sound hs hsl hx hl hh hm
    exact ⟨v',h1,h2.to_vw⟩
  ·cases hf
 | _=>simp only [sliceW] at hf; exact sliceV_sound hs hf hx hl hh hm
end Go.AL
namespace Go.AL
open Go
variable {P:Program}
def nilCheckV:AV→Option AV
 | .ptr b g i o=>some (.ptr b g i o)
 | .rptr x=>some (.rptr x)
 | .func (.func f) a c=>some (.func (.func f) a c)
 | _=>none
def fieldV (P:Program) (t:TypeId) (x:AV) (f:Nat):Option AV:=
 match fieldT P t f,x with
 | some fd,.agg cs=>partV P fd.type cs fd.offset
 | _,_=>none
def lightV (P:Program) (ρ:Operand→AV) (h:List ABlk):Op→Option AV
 | .move x | .assign x=>some (ρ x)
 | .pick c a b=>match ρ c with
  | .bool true=>some (ρ a)
  | .bool false=>some (ρ b)
  | _=>none
 | .nilCheck x=>nilCheckV (ρ x)
 | .binOp op t x y _=>binV P op t (Operand.isC x || Operand.isC y) (ρ x) (ρ y)
 | .unOp op _ x=>unV op (ρ x)
 | .convert s d x=>convV P s d (ρ x)
 | .makeInterface t x=>if isConcreteT P t then some (.iface t (ρ x)) else none
 | .makeFunc fn first cap=>some (.func fn (first.toList.map ρ) (cap.toList.map ρ))
 | .slice t x lo hi mx=>sliceW P h t (ρ x) (lo.map ρ) (hi.map ρ) (mx.map ρ)
 | .fieldAddr s x f=>fieldAddrV P h s (ρ x) f
 | .field t x f=>fieldV P t (ρ x) f
 | .indexAddr t x i=>indexAddrW P h t (ρ x) (ρ i)
 | .index t x i=>indexV P t (ρ x) (ρ i)
 | .load t a=>loadV P h t (ρ a)
 | .lookup t x i ok=>lookupV P h t (ρ x) (ρ i) ok
 | .typeAssert x _ t ok=>assertV P (ρ x) t ok
 | .extract t i=>match ρ t with
  | .tup vs=>vs[i]?
  | _=>none
 | .build t parts=>buildV P t (parts.toList.map fun (i,x)=>(i,ρ x))
 | .call { callee:=.builtin .len,args,argTypes }=>match args.toList,argTypes[0]? with
  | [x],some t=>lenW P h t (ρ x)
  | _,_=>none
 | .call { callee:=.builtin .cap,args,argTypes }=>match args.toList,argTypes[0]? with
  | [x],some t=>capV P t (ρ x)
  | _,_=>none
 | .call { callee:=.builtin .max,args,.. }=>mmV true (args.toList.map ρ)
 | .call { callee:=.builtin .min,args,.. }=>mmV false (args.toList.map ρ)
 | _=>none
theorem VRO.map {C:Ctx} {ρ:Operand→AV} {σ:Operand→Value} (hρ:∀ x,VR C (ρ x) (σ x)) (o:Option Operand):VRO C (o.map ρ) (o.map σ):=by
 cases o with
 | none=>trivial
 | some x=>exact hρ x
theorem VRP.map {C:Ctx} {ρ:Operand→AV} {σ:Operand→Value} (hρ:∀ x,VR C (ρ x) (σ x)) (l:List (Nat×Operand)):VRP C (l.map fun (i,x)=>(i,ρ x)) (l.map fun (i,x)=>(i,σ x)):=by
 induction l with
 | nil=>trivial
 | cons p l ih=>exact ⟨rfl,hρ _,ih⟩
theorem list_one {α:Type} {l:Array α} {x:α} (h:l.toList = [x]):l = #[x]:=by
 cases l; simp at h; simp [h]
theorem lightV_sound {C:Ctx} {h:List ABlk} (hs:SR C h) {ρ:Operand→AV} {σ:Operand→Value} (hρ:∀ x,VR C (ρ x) (σ x)) {o:Oper} {v:AV} (hl:lightV P ρ h o.op = some v) :
  ∃ v',(execOp σ o).run P C.w = .ok (.value v') C.w∧VR C v v':=by
 obtain ⟨dst,op,ty,pos,after,guard⟩:=o
 simp only at hl
 unfold lightV at hl
 split at hl
 ·injection hl with hl; subst hl; exact ⟨_,by simp [execOp],hρ _⟩
 ·injection hl with hl; subst hl; exact ⟨_,by simp [execOp],hρ _⟩
 ·rename_i c a b
  have hc:=hρ c
  split at hl
  ·rename_i e; rw [e] at hc; simp only [VR] at hc; injection hl with hl; subst hl; exact ⟨_,by simp [execOp,hc,asBool],hρ _⟩
  ·rename_i e; rw [e] at hc; simp only [VR] at hc; injection hl with hl; subst hl; exact ⟨_,by simp [execOp,hc,asBool],hρ _⟩
  ·cases hl
 ·rename_i x
  have hx:=hρ x
  unfold nilCheckV at hl
  split at hl
  ·rename_i e; injection hl with hl; subst hl; rw [e] at hx; have hx':=hx; simp only [VR] at hx; obtain ⟨_,a,ha,_⟩:=hx
   exact ⟨_,by simp [execOp,ha]; rfl,by rw [← ha]; exact hx'⟩
  ·rename_i e; injection hl with hl; subst hl; rw [e] at hx; have hx':=hx; simp only [VR] at hx; obtain ⟨a,y,ha,_⟩:=hx
   exact ⟨_,by simp [execOp,ha]; rfl,by rw [← ha]; exact hx'⟩
  ·rename_i e; injection hl with hl; subst hl; rw [e] at hx; have hx':=hx; simp only [VR] at hx; obtain ⟨a,y,ha,_⟩:=hx
   exact ⟨_,by simp [execOp,ha]; rfl,by rw [← ha]; exact hx'⟩
  ·cases hl
 ·rename_i op t x y yt
  obtain ⟨v',h1,h2,h3⟩:=binV_sound hl (hρ x) (hρ y)
  exact ⟨v',by simp [execOp,h1,h2],h3⟩
 ·rename_i op t x
  obtain ⟨v',h1,h2⟩:=unV_sound (P:=P) (w:=C.w) hl (hρ x)
  exact ⟨v',by simp [execOp,h1],h2⟩
 ·rename_i s d x
  obtain ⟨v',h1,h2⟩:=convV_sound (w:=C.w) hl (hρ x)
  exact ⟨v',by simp [execOp,h1],h2⟩
 ·rename_i t x
  split at hl
  ·rename_i hc
   injection hl with hl; subst hl
   unfold isConcreteT at hc
   split at hc
   ·cases hc
   ·rename_i d hni ht
    refine ⟨.iface t (σ x),?_,by simp only [VR]; exact ⟨_,rfl,hρ x⟩⟩
    cases d <;> simp_all [execOp,Instr.makeInterface,run_underlying_ok ht]
   ·cases hc
  ·cases hl
 ·rename_i fn first cap
  injection hl with hl; subst hl
  refine ⟨.func fn (first.map σ) (cap.map σ),by simp [execOp,Instr.makeFunc],?_⟩
  simp only [VR]
  exact ⟨_,_,rfl,by simpa using VRL.map _ hρ,by simpa using VRL.map _ hρ⟩
 ·rename_i t x lo hi mx
  obtain ⟨v',h1,h2⟩:=sliceW_sound hs hl (hρ x) (VRO.map hρ lo) (VRO.map hρ hi) (VRO.map hρ mx)
  exact ⟨v',by simp [execOp,h1],h2⟩
 ·rename_i s x f
  obtain ⟨v',h1,h2⟩:=fieldAddrV_sound hs hl (hρ x)
  exact ⟨v',by simp [execOp,h1],h2⟩
 ·rename_i t x f
  unfold fieldV at hl
  split at hl
  ·rename_i fd cs hfd e
   have hx:=hρ x
   rw [e] at hx
   simp only [VR] at hx
   obtain ⟨arr,ha,hx⟩:=hx
   obtain ⟨v',h1,h2⟩:=partV_sound (w:=C.w) hl hx
   unfold fieldT at hfd
   split at hfd
   ·rename_i fields hu
    exact ⟨v',by simp [execOp,Instr.field,run_underlying_ok hu,hfd,ha,asAgg,h1],h2⟩
   ·cases hfd
  ·cases hl
 ·rename_i t x i
  obtain ⟨v',h1,h2⟩:=indexAddrW_sound hs hl (hρ x) (hρ i)
  exact ⟨v',by simp [execOp,h1],h2⟩
 ·rename_i t x i
  obtain ⟨v',h1,h2⟩:=indexV_sound hl (hρ x) (hρ i)
  exact ⟨v',by simp [execOp,h1],h2⟩
 ·rename_i t a
  obtain ⟨v',h1,h2⟩:=loadV_sound hs hl (hρ a)
  exact ⟨v',by simp [execOp,h1],h2⟩
 ·rename_i t x i ok
  obtain ⟨v',h1,h2⟩:=lookupV_sound hs hl (hρ x) (hρ i)
  exact ⟨v',by simp [execOp,h1],h2⟩
 ·rename_i x xt t ok
  obtain ⟨v',h1,h2⟩:=assertV_sound (xt:=xt) hl (hρ x)
  exact ⟨v',by simp [execOp,h1],h2⟩
 ·rename_i t i
  have ht:=hρ t
  split at hl
  ·rename_i vs e
   rw [e] at ht
   simp only [VR] at ht
   obtain ⟨arr,ha,hx⟩:=ht
   obtain ⟨y,hy,hv⟩:=hx.get hl
   exact ⟨y,by simp [execOp,Instr.extract,ha,show arr[i]? = some y by simpa using hy],hv⟩
  ·cases hl
 ·rename_i t parts
  obtain ⟨v',h1,h2⟩:=buildV_sound (vparts:=parts.map fun (i,x)=>(i,σ x)) hl (by simpa using VRP.map hρ parts.toList)
  exact ⟨v',by simp [execOp,h1],h2⟩
 ·rename_i args ats
  split at hl
  ·rename_i x t hargs hat
   have:=list_one hargs; subst this
   obtain ⟨v',h1,h2⟩:=lenW_sound hs hl (hρ x) ats hat ty
   exact ⟨v',by simp [execOp,resolve,invoke,builtin,h1],h2⟩
  ·cases hl
 ·rename_i args ats
  split at hl
  ·rename_i x t hargs hat
   have:=list_one hargs; subst this
   obtain ⟨v',h1,h2⟩:=capV_sound hl (hρ x) ats hat ty
   exact ⟨v',by simp [execOp,resolve,invoke,builtin,h1],h2⟩
  ·cases hl
 ·rename_i args ats
  obtain ⟨v',h1,h2⟩:=mmV_sound (P:=P) (w:=C.w) true hl (VRL.map args.toList hρ) ats ty
  refine ⟨v',?_,h2⟩
  have e:(args.toList.map σ).toArray = args.map σ:=by rw [← Array.toList_map]
  rw [e] at h1
  have h1':_ = _:=h1
  simp only [if_true,if_false,Bool.false_eq_true] at h1'
  simp [execOp,resolve,invoke,builtin,h1']
 ·rename_i args ats
  obtain ⟨v',h1,h2⟩:=mmV_sound (P:=P) (w:=C.w) false hl (VRL.map args.toList hρ) ats ty
  refine ⟨v',?_,h2⟩
  have e:(args.toList.map σ).toArray = args.map σ:=by rw [← Array.toList_map]
  rw [e] at h1
  have h1':_ = _:=h1
  simp only [if_true,if_false,Bool.false_eq_true] at h1'
  simp [execOp,resolve,invoke,builtin,h1']
 ·cases hl
end Go.AL
namespace Go.AL
open Go
variable {P:Program}
theorem BR.keep {C C':Ctx} (e:Ext C C') {b:Nat} {x:ABlk} (hρ:C'.ρ b = C.ρ b) (hw:∀ l,C.ρ b = some l→C'.w.heap[l.cb]? = C.w.heap[l.cb]?) (h:BR C b x):BR C' b x:=by
 cases x with
 | row g sz xs=>
  obtain ⟨hp,l,arr,e',vs,h1,h2,h3,h4,h5,h6,h7,h8⟩:=h
  refine ⟨hp,l,arr,e',vs,hρ.trans h1,h2,h3,(hw l h1).trans h4,h5,h6,?_,VRL.ext e xs vs h8⟩
  intro i hi
  refine ⟨(h7 i hi).1,fun j hj=>?_⟩
  have:=(h7 i hi).2 j hj
  simpa [World.cell?,hw l h1] using this
 | map es=>
  obtain ⟨l,arr,clock,h1,h2,h3,h4,h5,h6⟩:=h
  exact ⟨l,arr,clock,hρ.trans h1,h2,(hw l h1).trans h3,VRL.ext e _ _ h4,VRL.ext e _ _ h5,h6⟩
 | loop st pend env ps assign body=>
  obtain ⟨l,r,h1,h2,h3,h4,h5,h6,h7⟩:=h
  exact ⟨l,r,hρ.trans h1,h2,(hw l h1).trans h3,h4,h5,VRL.ext e _ _ h6,h7⟩
 | defr=>
  obtain ⟨l,h1,h2,h3⟩:=h
  exact ⟨l,hρ.trans h1,h2,(hw l h1).trans h3⟩
 | dead=>exact hρ.trans h
 | resv=>exact hρ.trans h
def Ctx.push (C:Ctx) (l:Loc) (w:World):Ctx:={ C with ρ:=fun b=>if b = C.n then some l else C.ρ b,n:=C.n + 1,w:=w }
structure Keep (w w':World) (cb:Option Nat):Prop where
 size:w.heap.size≤w'.heap.size
 same:∀ blk,blk < w.heap.size→some blk ≠ cb→w'.heap[blk]? = w.heap[blk]?
 tape:w'.tape = w.tape
 os:w'.os = w.os
 output:w'.output = w.output
theorem SR.lt {C:Ctx} {h:List ABlk} (hs:SR C h) {b:Nat} {l:Loc} (hb:b < C.n) (hl:C.ρ b = some l):l.cb < C.w.heap.size:=by
 have hlen:b < h.length:=by rw [hs.len]; exact hb
 have:=hs.blk b h[b] (by simp [hlen])
 cases hx:h[b] with
 | row g sz xs=>
  rw [hx] at this
  obtain ⟨_,l',arr,e,vs,h1,_,_,h4,_⟩:=this
  rw [hl] at h1; injection h1 with h1; subst h1
  rcases Nat.lt_or_ge l.cb C.w.heap.size with h | h
  ·exact h
  ·simp [Array.getElem?_eq_none h] at h4
 | map es=>
  rw [hx] at this
  obtain ⟨l',arr,clock,h1,_,h4,_⟩:=this
  rw [hl] at h1; injection h1 with h1; subst h1
  rcases Nat.lt_or_ge l.cb C.w.heap.size with h | h
  ·exact h
  ·simp [Array.getElem?_eq_none h] at h4
 | loop st pend env ps assign body=>
  rw [hx] at this
  obtain ⟨l',r,h1,_,h4,_⟩:=this
  rw [hl] at h1; injection h1 with h1; subst h1
  rcases Nat.lt_or_ge l.cb C.w.heap.size with h | h
  ·exact h
  ·simp [Array.getElem?_eq_none h] at h4
 | defr=>
  rw [hx] at this
  obtain ⟨l',h1,_,h4⟩:=this
  rw [hl] at h1; injection h1 with h1; subst h1
  rcases Nat.lt_or_ge l.cb C.w.heap.size with h | h
  ·exact h
  ·simp [Array.getElem?_eq_none h] at h4
 | dead=>
  rw [hx] at this
  rw [show C.ρ b = none from this] at hl
  cases hl
 | resv=>
  rw [hx] at this
  rw [show C.ρ b = none from this] at hl
  cases hl
theorem push_ext {C:Ctx} {l:Loc} {w:World} (hcb:C.w.heap.size≤l.cb) (hk:Keep C.w w none):Ext C (C.push l w) where
 forb:=rfl
 n:=Nat.le_succ _
 size:=hk.size
 same blk hb _:=hk.same blk hb (by simp)
 image blk ho:=by
  obtain ⟨b,l',hb,hl,rfl⟩:=ho
  simp only [Ctx.push] at hl hb
  split at hl
  ·injection hl with hl; subst hl; exact .inr hcb
  ·exact .inl ⟨b,l',by omega,hl,rfl⟩
 born b hb:=⟨Nat.lt_succ_of_lt hb.1,hb.2⟩
 ρ b hb l' hl:=by
  simp only [Ctx.push] at hl
  rw [if_neg (by have:=hb.1; omega)] at hl
  exact .inl hl
 tape:=hk.tape
 os:=hk.os
 output:=hk.output
theorem push_born {C:Ctx} {h:List ABlk} (hs:SR C h) (l:Loc) (w:World):(C.push l w).born C.n:=
 ⟨Nat.lt_succ_self _,fun hr=>by
  have:=(List.getElem?_eq_some_iff.1 ((hs.res C.n).1 hr)).1
  rw [hs.len] at this
  omega⟩
theorem push_SR {C:Ctx} {h:List ABlk} (hs:SR C h) {l:Loc} {w:World} (hcb:C.w.heap.size≤l.cb) (hk:Keep C.w w none) {x:ABlk} (hx:BR (C.push l w) C.n x) :
  SR (C.push l w) (h ++ [x]) where
 len:=by simp [Ctx.push,hs.len]
 blk b y hy:=by
  rw [List.getElem?_append] at hy
  split at hy
  ·rename_i hlt
   have hbn:b < C.n:=by rw [← hs.len]; exact hlt
   have e:=push_ext (C:=C) hcb hk
   refine (hs.blk b y hy).keep e (by simp [Ctx.push,Nat.ne_of_lt hbn]) (fun l' hl'=>hk.same l'.cb (hs.lt hbn hl') (by simp))
  ·rename_i hge
   have:b = C.n:=by
    rw [← hs.len]
    rcases Nat.lt_or_ge b (h.length + 1) with h' | h'
    ·omega
    ·have:[x].length≤b - h.length:=by simp; omega
     rw [List.getElem?_eq_none this] at hy; cases hy
   subst this
   rw [hs.len] at hy
   simp at hy
   subst hy
   exact hx
 inj b b' l1 l2 hb hb' h1 h2 he:=by
  simp only [Ctx.push] at hb hb' h1 h2
  split at h1 <;> split at h2
  ·omega
  ·injection h1 with h1; subst h1
   have:=hs.lt (by omega) h2
   omega
  ·injection h2 with h2; subst h2
   have:=hs.lt (by omega) h1
   omega
  ·exact hs.inj b b' l1 l2 (by omega) (by omega) h1 h2 he
 forb blk hf:=by
  obtain ⟨h1,h2⟩:=hs.forb blk hf
  refine ⟨Nat.lt_of_lt_of_le h1 hk.size,?_⟩
  rintro ⟨b,l',hb,hl,rfl⟩
  simp only [Ctx.push] at hl hb
  split at hl
  ·injection hl with hl; subst hl; omega
  ·exact h2 ⟨b,l',by omega,hl,rfl⟩
 res b:=by
  refine (hs.res b).trans ?_
  rw [List.getElem?_append]
  split
  ·rfl
  ·rename_i hge
   constructor
   ·intro hr; exact absurd (List.getElem?_eq_some_iff.1 hr).1 hge
   ·intro hr
    exfalso
    rcases Nat.lt_or_ge 0 (b - h.length) with hp | hp
    ·rw [List.getElem?_eq_none (by simp; omega)] at hr; cases hr
    ·have hbn:b = C.n:=by rw [← hs.len]; omega
     subst hbn
     rw [hs.len] at hr
     simp at hr
     subst hr
     simp [BR,Ctx.push] at hx
def Ctx.grow (C:Ctx) (w:World):Ctx:={ C with w:=w }
theorem grow_ext {C:Ctx} {w:World} (hk:Keep C.w w none):Ext C (C.grow w) where
 forb:=rfl
 n:=Nat.le_refl _
 size:=hk.size
 same blk hb _:=hk.same blk hb (by simp)
 image blk ho:=.inl ho
 born b hb:=hb
 ρ b hb l' hl:=.inl hl
 tape:=hk.tape
 os:=hk.os
 output:=hk.output
theorem grow_SR {C:Ctx} {h:List ABlk} (hs:SR C h) {w:World} (hk:Keep C.w w none):SR (C.grow w) h where
 len:=hs.len
 blk b y hy:=(hs.blk b y hy).keep (grow_ext hk) rfl (fun l' hl'=>hk.same l'.cb (hs.lt (by rw [← hs.len]; exact (List.getElem?_eq_some_iff.1 hy).1) hl') (by simp))
 inj:=hs.inj
 forb blk hf:=⟨Nat.lt_of_lt_of_le (hs.forb blk hf).1 hk.size,(hs.forb blk hf).2⟩
 res:=hs.res
theorem Keep.alloc (w:World) (o:Obj):Keep w { w with heap:=w.heap.push o } none where
 size:=by simp
 same blk hb _:=by simp [Array.getElem?_push,Nat.ne_of_lt hb]
 tape:=rfl
 os:=rfl
 output:=rfl
theorem Keep.drew (w:World) (n:Nat):Keep w { w with drawn:=n } none:=⟨Nat.le_refl _,fun _ _ _=>rfl,rfl,rfl,rfl⟩
theorem Keep.trans {w w' w'':World} {cb:Option Nat} (h:Keep w w' cb) (k:Keep w' w'' cb):Keep w w'' cb where
 size:=Nat.le_trans h.size k.size
 same blk hb hc:=(k.same blk (Nat.lt_of_lt_of_le hb h.size) hc).trans (h.same blk hb hc)
 tape:=k.tape.trans h.tape
 os:=k.os.trans h.os
 output:=k.output.trans h.output
theorem Keep.weaken {w w':World} (h:Keep w w' none) (cb:Option Nat):Keep w w' cb:=⟨h.size,fun blk hb _=>h.same blk hb (by simp),h.tape,h.os,h.output⟩
def Ctx.upd (C:Ctx) (b:Nat) (l:Loc) (w:World):Ctx:={ C with ρ:=fun b'=>if b' = b then some l else C.ρ b',w:=w }
theorem upd_ext {C:Ctx} {b:Nat} {l l':Loc} {w:World} (hb:b < C.n) (hl:C.ρ b = some l) (hl':l' = l ∨ (l.g < l'.g∧l.sz = l'.sz)) (hcb:l'.cb = l.cb ∨ C.w.heap.size≤l'.cb)
  (hk:Keep C.w w (some l.cb)):Ext C (C.upd b l' w) where
 forb:=rfl
 n:=Nat.le_refl _
 size:=hk.size
 same blk hb' ho:=hk.same blk hb' (fun e=>ho ⟨b,l,hb,hl,by injection e with e; exact e.symm⟩)
 image blk ho:=by
  obtain ⟨b',l2,hb',hl2,rfl⟩:=ho
  simp only [Ctx.upd] at hl2
  split at hl2
  ·injection hl2 with hl2; subst hl2
   rcases hcb with h | h
   ·exact .inl ⟨b,l,hb,hl,h.symm⟩
   ·exact .inr h
  ·exact .inl ⟨b',l2,hb',hl2,rfl⟩
 born b hb:=hb
 ρ b' hb' l2 hl2:=by
  simp only [Ctx.upd] at hl2
  split at hl2
  ·rename_i e
   subst e
   injection hl2 with hl2; subst hl2
   rcases hl' with rfl | h
   ·exact .inl hl
   ·exact .inr ⟨l,hl,h⟩
  ·exact .inl hl2
 tape:=hk.tape
 os:=hk.os
 output:=hk.output
theorem upd_SR {C:Ctx} {h:List ABlk} (hs:SR C h) {b:Nat} {l l':Loc} {w:World} (hb:b < C.n) (hl:C.ρ b = some l) (hl':l' = l ∨ (l.g < l'.g∧l.sz = l'.sz)) (hcb:l'.cb = l.cb ∨ C.w.heap.size≤l'.cb)
  (hk:Keep C.w w (some l.cb)) {x:ABlk} (hx:BR (C.upd b l' w) b x):SR (C.upd b l' w) (h.set b x) where
 len:=by simp [Ctx.upd,hs.len]
 blk b' y hy:=by
  rw [List.getElem?_set] at hy
  split at hy
  ·rename_i e
   subst e
   split at hy
   ·injection hy with hy; subst hy; exact hx
   ·cases hy
  ·rename_i hne
   have hbn:b' < C.n:=by rw [← hs.len]; exact (List.getElem?_eq_some_iff.1 hy).1
   refine (hs.blk b' y hy).keep (upd_ext hb hl hl' hcb hk) (by simp [Ctx.upd,Ne.symm hne]) (fun l2 hl2=>hk.same l2.cb (hs.lt hbn hl2) ?_)
   intro e
   injection e with e
   exact hne (hs.inj b b' l l2 hb hbn hl hl2 e.symm)
 inj b1 b2 l1 l2 hb1 hb2 h1 h2 he:=by
  simp only [Ctx.upd] at hb1 hb2 h1 h2
  split at h1 <;> split at h2
  ·omega
  ·injection h1 with h1; subst h1
   rename_i e1 hne
   subst e1
   rcases hcb with h' | h'
   ·exact hs.inj _ _ l l2 hb1 hb2 hl h2 (h'.symm.trans he)
   ·have:=hs.lt hb2 h2; omega
  ·injection h2 with h2; subst h2
   rename_i hne e1
   subst e1
   rcases hcb with h' | h'
   ·exact hs.inj _ _ l1 l hb1 hb2 h1 hl (he.trans h')
   ·have:=hs.lt hb1 h1; omega
  ·exact hs.inj b1 b2 l1 l2 hb1 hb2 h1 h2 he
 forb blk hf:=by
  obtain ⟨h1,h2⟩:=hs.forb blk hf
  refine ⟨Nat.lt_of_lt_of_le h1 hk.size,?_⟩
  rintro ⟨b',l2,hb',hl2,rfl⟩
  simp only [Ctx.upd] at hl2
  split at hl2
  ·injection hl2 with hl2; subst hl2
   rcases hcb with h' | h'
   ·exact h2 ⟨b,l,hb,hl,h'.symm⟩
   ·omega
  ·exact h2 ⟨b',l2,hb',hl2,rfl⟩
 res b':=by
  refine (hs.res b').trans ?_
  rw [List.getElem?_set]
  split
  ·rename_i e
   subst e
   split
   ·constructor
    ·intro hr; exact absurd ((hs.res b).2 hr) (hs.born hb hl).2
    ·intro hr; injection hr with hr; subst hr; simp [BR,Ctx.upd] at hx
   ·rename_i hge; exact absurd (by rw [hs.len]; exact hb) hge
  ·rfl
end Go.AL
namespace Go.AL
open Go
variable {P:Program}
def rowCells (vs:List Value):List Value:=vs.flatMap (·.cells.toList)
theorem rowCells_length {sz:Nat}:∀ (vs:List Value),(∀ v ∈ vs,v.cells.size = sz)→(rowCells vs).length = vs.length * sz
 | [],_=>by simp [rowCells]
 | v :: vs,h=>by
  have:=rowCells_length vs (fun x hx=>h x (by simp [hx]))
  simp only [rowCells,List.flatMap_cons,List.length_append,Array.length_toList,List.length_cons] at this ⊢
  rw [this,h v (by simp),Nat.succ_mul]
  omega
theorem rowCells_get {sz:Nat}:∀ (vs:List Value),(∀ v ∈ vs,v.cells.size = sz)→∀ (i:Nat) (hi:i < vs.length) (j:Nat),j < sz→(rowCells vs)[i * sz + j]? = vs[i].cells[j]?
 | [],_,i,hi,_,_=>by simp at hi
 | v :: vs,h,i,hi,j,hj=>by
  have hv:=h v (by simp)
  simp only [rowCells,List.flatMap_cons]
  cases i with
  | zero=>rw [List.getElem?_append_left (by simp [hv]; omega)]; simp
  | succ i=>
   rw [List.getElem?_append_right (by simp [hv,Nat.succ_mul]; omega)]
   have:=rowCells_get vs (fun x hx=>h x (by simp [hx])) i (by simpa using hi) j hj
   simp only [rowCells] at this
   simp only [Array.length_toList,hv]
   rw [show (i + 1) * sz + j - sz = i * sz + j by rw [Nat.succ_mul]; omega,this]
   simp
theorem HoldsRow.sizes {w:World} {a:Addr} {sz:Nat} {vs:List Value} (h:HoldsRow w a sz vs):∀ v ∈ vs,v.cells.size = sz:=by
 intro v hv
 obtain ⟨i,hi,rfl⟩:=List.getElem_of_mem hv
 exact (h i hi).1
theorem HoldsRow.cells {w:World} {a:Addr} {sz:Nat} {vs:List Value} (h:HoldsRow w a sz vs) (k:Nat) (hk:k < (rowCells vs).length):w.cell? ⟨a.block,a.off + k,none⟩ = some (rowCells vs)[k]:=by
 have hl:=rowCells_length vs h.sizes
 have hsz:0 < sz:=by
  rcases Nat.eq_zero_or_pos sz with h0 | h0
  ·subst h0; rw [hl] at hk; simp at hk
  ·exact h0
 have hi:k / sz < vs.length:=by rw [Nat.div_lt_iff_lt_mul hsz,← hl]; exact hk
 have hj:k % sz < sz:=Nat.mod_lt _ hsz
 have hk':k / sz * sz + k % sz = k:=by rw [Nat.mul_comm]; exact Nat.div_add_mod k sz
 have h1:=rowCells_get vs h.sizes (k / sz) hi (k % sz) hj
 rw [hk'] at h1
 obtain ⟨hs,hh⟩:=h (k / sz) hi
 have h2:=hh (k % sz) (by omega)
 rw [show a.off + k / sz * sz + k % sz = a.off + k by omega] at h2
 rw [h2]
 have h3:(rowCells vs)[k]? = some (rowCells vs)[k]:=by simp [hk]
 rw [h1] at h3
 have h4:vs[k / sz].cells[k % sz]? = some vs[k / sz].cells[k % sz]:=by simp;
 rw [h4] at h3
 exact h3
theorem HoldsRow.of_block {w:World} {blk d sz:Nat} {arr:Array Value} {e:TypeId} {fz:Nat×Nat} {vs:List Value} (hb:w.heap[blk]? = some (.cells arr e fz)) (hsz:∀ v ∈ vs,v.cells.size = sz)
  (h:∀ k (hk:k < (rowCells vs).length),arr[d + k]? = some (rowCells vs)[k]):HoldsRow w ⟨blk,d,none⟩ sz vs:=by
 intro i hi
 refine ⟨hsz _ (List.getElem_mem hi),fun j hj=>?_⟩
 have hs:vs[i].cells.size = sz:=hsz _ (List.getElem_mem hi)
 have h1:=rowCells_get vs hsz i hi j (by omega)
 have hl:=rowCells_length vs hsz
 have hlt:i * sz + j < (rowCells vs).length:=by
  rw [hl]
  have:(i + 1) * sz≤vs.length * sz:=Nat.mul_le_mul_right _ hi
  rw [Nat.succ_mul] at this
  omega
 have h2:=h (i * sz + j) hlt
 have h3:(rowCells vs)[i * sz + j]? = some (rowCells vs)[i * sz + j]:=by simp [hlt]
 rw [h1] at h3
 have h4:vs[i].cells[j]? = some vs[i].cells[j]:=by simp [hj]
 rw [h4] at h3
 injection h3 with h3
 simp only [World.cell?,hb]
 rw [h3,← h2]
 simp [Nat.add_assoc]
theorem row_in_block {w:World} {blk d sz:Nat} {arr:Array Value} {e:TypeId} {fz:Nat×Nat} {vs:List Value} (hb:w.heap[blk]? = some (.cells arr e fz)) (h:HoldsRow w ⟨blk,d,none⟩ sz vs) :
  ∀ k (hk:k < (rowCells vs).length),arr[d + k]? = some (rowCells vs)[k]:=by
 intro k hk
 have:=h.cells k hk
 simpa [World.cell?,hb] using this
theorem run_loadRow {w:World} {a:Addr} {sz:Nat} {vs:List Value} (ha:a.spot = none) (h:HoldsRow w a sz vs):(loadCells a (vs.length * sz)).run P w = .ok (rowCells vs).toArray w:=by
 have hl:=rowCells_length vs h.sizes
 rw [← hl]
 unfold loadCells
 have:=run_loadCellsFrom (P:=P) (w:=w) (a:=a) (rowCells vs) 0 #[] (fun j hj=>by rw [add_plain ha,Nat.zero_add]; exact h.cells j hj)
 simpa using this
theorem run_loadRow' {w:World} {a:Addr} {sz c:Nat} {vs:List Value} (hc:vs.length≤c) (ha:c ≠ 0→a.spot = none) (h:HoldsRow w a sz vs):(loadCells a (vs.length * sz)).run P w = .ok (rowCells vs).toArray w:=by
 have hl:=rowCells_length vs h.sizes
 rw [← hl]
 unfold loadCells
 have:=run_loadCellsFrom (P:=P) (w:=w) (a:=a) (rowCells vs) 0 #[] (fun j hj=>by
  have hc0:c ≠ 0:=by
   rintro rfl
   have:vs = []:=List.eq_nil_of_length_eq_zero (by omega)
   subst this
   simp [rowCells] at hj
  rw [add_plain (ha hc0),Nat.zero_add]; exact h.cells j hj)
 simpa using this
def World.put (w:World) (blk:Nat) (arr:Array Value) (e:TypeId):World:={ w with heap:=w.heap.setIfInBounds blk (.cells arr e (0,0)) }
theorem put_heap {w:World} {blk:Nat} {arr:Array Value} {e:TypeId} (h:blk < w.heap.size):(World.put w blk arr e).heap[blk]? = some (.cells arr e (0,0)):=by
 simp [World.put,h]
theorem put_keep (w:World) (blk:Nat) (arr:Array Value) (e:TypeId):Keep w (World.put w blk arr e) (some blk) where
 size:=by simp [World.put]
 same b hb hne:=by
  have:blk ≠ b:=fun e=>hne (by rw [e])
  simp [World.put,Array.getElem?_setIfInBounds_ne this]
 tape:=rfl
 os:=rfl
 output:=rfl
theorem setCell_put {w:World} {blk off:Nat} {arr:Array Value} {e:TypeId} {v:Value} (hb:w.heap[blk]? = some (.cells arr e (0,0))) :
  w.setCell ⟨blk,off,none⟩ v = World.put w blk (arr.setIfInBounds off v) e:=by
 simp only [World.setCell,World.put]
 congr 1
 have hlt:blk < w.heap.size:=by
  rcases Nat.lt_or_ge blk w.heap.size with h | h
  ·exact h
  ·simp [Array.getElem?_eq_none h] at hb
 apply Array.ext_getElem?
 intro i
 rw [Array.getElem?_modify,Array.getElem?_setIfInBounds]
 by_cases hi:blk = i
 ·subst hi
  have hb':w.heap[blk] = .cells arr e (0,0):=by simpa [hlt] using hb
  simp [hlt,hb']
 ·simp [hi]
theorem put_put {w:World} {blk:Nat} {arr arr':Array Value} {e e':TypeId}:World.put (World.put w blk arr e) blk arr' e' = World.put w blk arr' e':=by
 simp [World.put]
theorem put_self {w:World} {blk:Nat} {arr:Array Value} {e:TypeId} (hb:w.heap[blk]? = some (.cells arr e (0,0))):World.put w blk arr e = w:=by
 have hlt:blk < w.heap.size:=by
  rcases Nat.lt_or_ge blk w.heap.size with h | h
  ·exact h
  ·simp [Array.getElem?_eq_none h] at hb
 have hb':w.heap[blk] = .cells arr e (0,0):=by simpa [hlt] using hb
 have:w.heap.setIfInBounds blk (.cells arr e (0,0)) = w.heap:=by
  apply Array.ext_getElem?
  intro i
  rw [Array.getElem?_setIfInBounds]
  by_cases hi:blk = i
  ·subst hi; simp [hlt,hb']
  ·simp [hi]
 simp [World.put,this]
theorem run_storeCells {e:TypeId} {blk:Nat} (vs:List Value):∀ (w:World) (off i:Nat) (arr:Array Value),w.heap[blk]? = some (.cells arr e (0,0))→off + i + vs.length≤arr.size →
  (∀ v ∈ vs,v.oneCell' = true)→(storeCells ⟨blk,off,none⟩ vs i).run P w = .ok () (World.put w blk ((arr.toList.take (off + i) ++ vs ++ arr.toList.drop (off + i + vs.length)).toArray) e):=by
 induction vs with
 | nil=>
  intro w off i arr hb h _
  have:(arr.toList.take (off + i) ++ [] ++ arr.toList.drop (off + i + ([]:List Value).length)).toArray = arr:=by simp
  rw [this,put_self hb]
  simp [storeCells]
 | cons v vs ih=>
  intro w off i arr hb h hv
  simp only [List.length_cons] at h
  have hoff:off + i < arr.size:=by omega
  have hc:w.cell? ⟨blk,off + i,none⟩ = some arr[off + i]:=by simp [World.cell?,hb,hoff]
  have hf:w.frozen? ⟨blk,off + i,none⟩ = false:=by simp [World.frozen?,hb]
  have hadd:(⟨blk,off,none⟩:Addr).add i = ⟨blk,off + i,none⟩:=add_plain rfl i
  have hlt:blk < w.heap.size:=by
   rcases Nat.lt_or_ge blk w.heap.size with h | h
   ·exact h
   ·simp [Array.getElem?_eq_none h] at hb
  simp only [storeCells,Sem.run_bind,hadd,run_store P w ⟨blk,off + i,none⟩ v .plain (hv v (by simp)),hc,hf,Bool.false_eq_true,if_false,Result.andThen_ok]
  rw [setCell_put hb,ih _ off (i + 1) (arr.setIfInBounds (off + i) v) (put_heap hlt) (by simp; omega) (fun x hx=>hv x (by simp [hx]))]
  rw [put_put]
  congr 3
  simp only [Array.toList_setIfInBounds,List.length_cons]
  have hoff':off + i < arr.toList.length:=by simpa using hoff
  rw [show off + (i + 1) = off + i + 1 by omega,List.take_set,List.drop_set,if_pos (by omega),List.take_succ_eq_append_getElem hoff',List.set_append]
  simp [Nat.min_eq_left (Nat.le_of_lt hoff)]
  congr 1
  omega
def solid:AV→Bool
 | .agg _ | .tup _ | .poison=>false
 | _=>true
theorem solid_one {C:Ctx} {x:AV} (h:solid x = true) {v:Value} (hx:VR C x v):v.oneCell' = true:=by
 cases x <;> simp only [solid] at h <;> (try cases h) <;> simp only [VR] at hx
 case ptr=>obtain ⟨_,a,rfl,_⟩:=hx; rfl
 case rptr=>obtain ⟨a,y,rfl,_⟩:=hx; rfl
 case sl=>obtain ⟨a,c,vs,rfl,_⟩:=hx; rfl
 case vw=>
  rcases hx with ⟨rfl,rfl⟩ | ⟨a,c,vs,rfl,_⟩
  ·rfl
  ·rfl
 case hsl=>obtain ⟨_,a,c,rfl,_⟩:=hx; rfl
 case map=>obtain ⟨_,r,rfl,_⟩:=hx; rfl
 case yield=>obtain ⟨_,r,rfl,_⟩:=hx; rfl
 case func=>obtain ⟨f,c,rfl,_⟩:=hx; rfl
 case iface=>obtain ⟨y,rfl,_⟩:=hx; rfl
 all_goals subst hx; rfl
theorem solids_one {C:Ctx}:∀ {xs:List AV},xs.all solid = true→∀ {vs:List Value},VRL C xs vs→∀ v ∈ vs,v.oneCell' = true
 | [],_,vs,hl,v,hv=>by simp only [VRL] at hl; subst hl; simp at hv
 | x :: xs,h,vs,hl,v,hv=>by
  simp only [VRL] at hl
  obtain ⟨y,ys,rfl,h1,h2⟩:=hl
  simp only [List.all_cons,Bool.and_eq_true] at h
  rcases List.mem_cons.1 hv with rfl | hv
  ·exact solid_one h.1 h1
  ·exact solids_one h.2 h2 v hv
def putPart (sz:Nat) (x:AV) (o:Nat) (v:AV):Option AV:=
 match cellsV v with
 | some cs=>if cs.all solid then match x with
  | .agg es=>if o + cs.length≤es.length then some (.agg (setSeg es o cs)) else none
  | _=>if o = 0∧cs.length = sz then some v else none
  else none
 | none=>none
def storeV (P:Program) (h:List ABlk) (t:TypeId) (a v:AV):Option (List ABlk):=
 match a,sizeT P t with
 | .ptr b g i o,some n=>match rowAt h b g with
  | some (sz,xs)=>match xs[i]?,cellsV v with
   | some x,some cs=>if cs.length = n then (putPart sz x o v).map fun x'=>h.set b (.row g sz (xs.set i x')) else none
   | _,_=>none
  | none=>none
 | _,_=>none
theorem seg_get (l seg:List Value) (p q:Nat) (h:p + seg.length≤l.length):(l.take p ++ seg ++ l.drop (p + seg.length))[q]? = if p≤q∧q < p + seg.length then seg[q - p]? else l[q]?:=by
 by_cases h1:q < p
 ·rw [if_neg (by omega),List.append_assoc,List.getElem?_append_left (by simp; omega),List.getElem?_take,if_pos h1]
 ·by_cases h2:q < p + seg.length
  ·rw [if_pos ⟨by omega,h2⟩,List.append_assoc,List.getElem?_append_right (by simp; omega)]
   rw [List.getElem?_append_left (by simp; omega)]
   congr 1
   simp; omega
  ·rw [if_neg (by omega),List.getElem?_append_right (by simp; omega),List.getElem?_drop]
   congr 1
   simp; omega
theorem HoldsRow.put {w:World} {blk d sz:Nat} {arr:Array Value} {e:TypeId} {vs:List Value} (hb:w.heap[blk]? = some (.cells arr e (0,0))) (h:HoldsRow w ⟨blk,d,none⟩ sz vs) {i o:Nat} {seg:List Value} {y:Value}
  (hi:i < vs.length) (ho:o + seg.length≤sz) (hsz:y.cells.size = sz) (hfit:d + vs.length * sz≤arr.size)
  (hy:∀ j,j < sz→y.cells[j]? = if o≤j∧j < o + seg.length then seg[j - o]? else vs[i].cells[j]?) :
  HoldsRow (World.put w blk ((arr.toList.take (d + i * sz + o) ++ seg ++ arr.toList.drop (d + i * sz + o + seg.length)).toArray) e) ⟨blk,d,none⟩ sz (vs.set i y):=by
 have hlt:blk < w.heap.size:=by
  rcases Nat.lt_or_ge blk w.heap.size with h | h
  ·exact h
  ·simp [Array.getElem?_eq_none h] at hb
 have hmul:(i + 1) * sz≤vs.length * sz:=Nat.mul_le_mul_right _ hi
 rw [Nat.succ_mul] at hmul
 intro k hk
 have hk':k < vs.length:=by simpa using hk
 obtain ⟨hks,hkh⟩:=h k hk'
 have hcell:∀ q,(World.put w blk ((arr.toList.take (d + i * sz + o) ++ seg ++ arr.toList.drop (d + i * sz + o + seg.length)).toArray) e).cell? ⟨blk,q,none⟩ =
   if d + i * sz + o≤q∧q < d + i * sz + o + seg.length then seg[q - (d + i * sz + o)]? else arr[q]?:=by
  intro q
  simp only [World.cell?,put_heap hlt,Option.isSome_none,Bool.false_eq_true,if_false]
  rw [List.getElem?_toArray,seg_get _ _ _ _ (by simp; omega)]
  simp
 by_cases hki:k = i
 ·subst hki
  have e1:(vs.set k y)[k] = y:=by simp
  refine ⟨by rw [e1]; exact hsz,fun j hj=>?_⟩
  rw [e1] at hj
  have hj':j < sz:=by omega
  have e2:((vs.set k y)[k]).cells[j]? = y.cells[j]?:=by rw [e1]
  have e3:some ((vs.set k y)[k]).cells[j] = y.cells[j]?:=by rw [← e2]; simp
  show World.cell? _ ⟨blk,d + k * sz + j,none⟩ = some _
  rw [e3,hcell,hy j hj']
  by_cases hc:o≤j∧j < o + seg.length
  ·rw [if_pos hc,if_pos (by omega)]
   congr 1
   omega
  ·rw [if_neg hc,if_neg (by omega)]
   have:=hkh j (by omega)
   simp only [World.cell?,hb,Option.isSome_none,Bool.false_eq_true,if_false] at this
   rw [this]
   simp
 ·have e1:(vs.set i y)[k] = vs[k]:=by simp [Ne.symm hki]
  refine ⟨by rw [e1]; exact hks,fun j hj=>?_⟩
  rw [e1] at hj
  have e2:((vs.set i y)[k]).cells[j]? = vs[k].cells[j]?:=by rw [e1]
  have e3:some ((vs.set i y)[k]).cells[j] = vs[k].cells[j]?:=by rw [← e2]; simp
  show World.cell? _ ⟨blk,d + k * sz + j,none⟩ = some _
  rw [e3,hcell]
  have hne:¬ (d + i * sz + o≤d + k * sz + j∧d + k * sz + j < d + i * sz + o + seg.length):=by
   rcases Nat.lt_or_gt_of_ne hki with h1 | h1
   ·have:(k + 1) * sz≤i * sz:=Nat.mul_le_mul_right _ h1
    rw [Nat.succ_mul] at this
    omega
   ·have:(i + 1) * sz≤k * sz:=Nat.mul_le_mul_right _ h1
    rw [Nat.succ_mul] at this
    omega
  rw [if_neg hne]
  have:=hkh j (by omega)
  simp only [World.cell?,hb,Option.isSome_none,Bool.false_eq_true,if_false] at this
  rw [this]
  simp
theorem storeV_sound {C:Ctx} {h h':List ABlk} (hs:SR C h) {t:TypeId} {a v:AV} (hf:storeV P h t a v = some h') {av vv:Value} (ha:VR C a av) (hv:VR C v vv) :
  ∃ C',(Instr.storeAt t av vv).run P C.w = .ok () C'.w∧Ext C C'∧SR C' h':=by
 unfold storeV at hf
 split at hf
 ·rename_i b g i o n hn
  split at hf
  ·rename_i sz xs hr
   split at hf
   ·rename_i x cs hx hcs
    split at hf
    ·rename_i hlen
     obtain ⟨x',hx',rfl⟩:=Option.map_eq_some_iff.1 hf
     obtain ⟨hb,hpos,l,arr,e,vs,h1,h2,h3,h4,h5,h6,h7,h8⟩:=rowAt_spec hs hr
     obtain ⟨l',h1',_,_,rfl⟩:=ha.ptr_live hs hr
     rw [h1] at h1'; injection h1' with h1'; subst h1'
     obtain ⟨y,hy,hxy⟩:=h8.get hx
     have hlt:i < vs.length:=(List.getElem?_eq_some_iff.1 hy).1
     have ey:vs[i] = y:=by simpa [hlt] using hy
     obtain ⟨hvc,_⟩:=cellsV_sound hcs hv
     have hvl:=hvc.length
     simp only [Array.length_toList] at hvl
     have hxlen:=h8.length
     have key:∃ y',VR C x' y'∧y'.cells.size = sz∧o + vv.cells.toList.length≤sz∧cs.all solid = true ∧
       (∀ j,j < sz→y'.cells[j]? = if o≤j∧j < o + vv.cells.toList.length then vv.cells.toList[j - o]? else vs[i].cells[j]?):=by
      have hysz:=(h7 i hlt).1
      rw [ey] at hysz
      unfold putPart at hx'
      rw [hcs] at hx'
      simp only at hx'
      split at hx'
      ·rename_i hsol
       split at hx'
       ·rename_i es
        split at hx'
        ·rename_i hle
         injection hx' with hx'; subst hx'
         simp only [VR] at hxy
         obtain ⟨ya,rfl,hl⟩:=hxy
         have hyl:=hl.length
         simp only [Array.length_toList] at hyl
         simp only [Value.cells] at hysz
         have hlen2:(ya.toList.take o ++ vv.cells.toList ++ ya.toList.drop (o + vv.cells.toList.length)).length = ya.size:=by simp; omega
         refine ⟨.agg (ya.toList.take o ++ vv.cells.toList ++ ya.toList.drop (o + vv.cells.toList.length)).toArray,?_,?_,by simp; omega,hsol,?_⟩
         ·simp only [VR]
          exact ⟨_,rfl,by simpa using hl.setSeg hvc⟩
         ·show ((ya.toList.take o ++ vv.cells.toList ++ ya.toList.drop (o + vv.cells.toList.length)).toArray).size = sz
          rw [List.size_toArray,hlen2,hysz]
         ·intro j hj
          show ((ya.toList.take o ++ vv.cells.toList ++ ya.toList.drop (o + vv.cells.toList.length)).toArray)[j]? = _
          rw [List.getElem?_toArray,seg_get _ _ _ _ (by simp; omega),ey]
          simp [Value.cells]
        ·cases hx'
       ·rename_i hna
        split at hx'
        ·rename_i h0
         injection hx' with hx'; subst hx'
         obtain ⟨rfl,hcl⟩:=h0
         refine ⟨vv,hv,by omega,by simp; omega,hsol,fun j hj=>?_⟩
         rw [if_pos (by simp; omega)]
         simp
        ·cases hx'
      ·cases hx'
     obtain ⟨y',hy1,hy2,hy3,hy4,hy5⟩:=key
     have hfit:l.d + vs.length * sz≤arr.size:=by rw [h5,← hxlen]; exact h6
     have hrow:=HoldsRow.put h4 h7 (o:=o) (seg:=vv.cells.toList) (y:=y') hlt hy3 hy2 hfit hy5
     have hmul:(i + 1) * sz≤vs.length * sz:=Nat.mul_le_mul_right _ hlt
     rw [Nat.succ_mul] at hmul
     have hrun:=run_storeCells (P:=P) vv.cells.toList C.w (l.d + i * sz + o) 0 arr h4 (by simp at hy3 ⊢; omega) (fun v hv=>solids_one hy4 hvc v hv)
     simp only [Nat.add_zero] at hrun
     have hbn:b < C.n:=by rw [← hs.len]; exact (List.getElem?_eq_some_iff.1 hb).1
     have hk:=put_keep C.w l.cb ((arr.toList.take (l.d + i * sz + o) ++ vv.cells.toList ++ arr.toList.drop (l.d + i * sz + o + vv.cells.toList.length)).toArray) e
     have hext:=upd_ext (C:=C) (l':=l) hbn h1 (.inl rfl) (.inl rfl) hk
     refine ⟨C.upd b l _,?_,hext,upd_SR hs hbn h1 (.inl rfl) (.inl rfl) hk ?_⟩
     ·simp only [Instr.storeAt,Instr.sureAddr,Sem.run_bind,Sem.run_pure,Result.andThen_ok,storeVar,run_sizeOf_ok hn]
      rw [if_neg (by omega)]
      exact hrun
     ·refine ⟨hpos,l,_,e,vs.set i y',by simp [Ctx.upd],h2,h3,put_heap (hs.lt hbn h1),?_,by simpa using h6,hrow,?_⟩
      ·simp
       simp at hy3
       omega
      ·exact (VRL.ext hext _ _ h8).set i (VR.ext hext _ _ hy1)
    ·cases hf
   ·cases hf
  ·cases hf
 ·cases hf
end Go.AL
namespace Go.AL
open Go
variable {P:Program}
def newLoc (C:Ctx) (sz size:Nat):Loc:={ g:=0,cb:=C.w.heap.size,d:=0,sz:=sz,size:=size }
theorem new_row {C:Ctx} {h:List ABlk} (hs:SR C h) {sz:Nat} {xs:List AV} {vs:List Value} {arr:Array Value} {e:TypeId} {w:World} (hw:Keep C.w w none) (hsize:C.w.heap.size≤w.heap.size) (hpos:0 < sz)
  (hfit:xs.length * sz≤arr.size) (hsz:∀ v ∈ vs,v.cells.size = sz) (hc:∀ k (hk:k < (rowCells vs).length),arr[k]? = some (rowCells vs)[k]) (hl:VRL C xs vs) :
  let l:Loc:={ g:=0,cb:=w.heap.size,d:=0,sz:=sz,size:=arr.size }
  let w':World:={ w with heap:=w.heap.push (.cells arr e) }
  Ext C (C.push l w')∧SR (C.push l w') (h ++ [.row 0 sz xs])∧Keep C.w w' none:=by
 intro l w'
 have hk:Keep C.w w' none:=hw.trans (Keep.alloc w _)
 have he:=push_ext (C:=C) (l:=l) hsize hk
 refine ⟨he,push_SR hs hsize hk ?_,hk⟩
 have hb:w'.heap[l.cb]? = some (.cells arr e (0,0)):=by simp [w',l]
 refine ⟨hpos,l,arr,e,vs,by simp [Ctx.push],rfl,rfl,hb,rfl,by simpa [l] using hfit,?_,VRL.ext he _ _ hl⟩
 exact HoldsRow.of_block hb hsz (fun k hk=>by simpa [l] using hc k hk)
theorem VR_newptr {C:Ctx} {h:List ABlk} (hs:SR C h) {l:Loc} {w:World} (hg:l.g = 0) (hd:l.d = 0):VR (C.push l w) (.ptr C.n 0 0 0) (.pointer (some ⟨l.cb,0,none⟩)):=by
 simp only [VR]
 refine ⟨push_born hs _ _,_,rfl,fun l' hl'=>?_⟩
 simp only [Ctx.push,if_true] at hl'
 injection hl' with hl'
 subst hl'
 exact ⟨Nat.zero_le _,fun _=>by simp [hd]⟩
def boxV (h:List ABlk) (v:AV):Option (AV×List ABlk):=
 match cellsV v with
 | some cs=>if cs.length = 0 then none else some (.ptr h.length 0 0 0,h ++ [.row 0 cs.length [v]])
 | none=>none
theorem rowCells_one (v:Value):rowCells [v] = v.cells.toList:=by simp [rowCells]
theorem boxV_sound {C:Ctx} {h h':List ABlk} (hs:SR C h) {t:TypeId} {x v:AV} (hf:boxV h x = some (v,h')) {xv:Value} (hx:VR C x xv) :
  ∃ C' v',(Instr.box t xv).run P C.w = .ok v' C'.w∧Ext C C'∧SR C' h'∧VR C' v v':=by
 unfold boxV at hf
 split at hf
 ·rename_i cs hcs
  split at hf
  ·cases hf
  ·rename_i hne
   injection hf with hf; injection hf with e1 e2; subst e1 e2
   obtain ⟨hl,_⟩:=cellsV_sound hcs hx
   have hlen:=hl.length
   simp only [Array.length_toList] at hlen
   obtain ⟨h1,h2,_⟩:=new_row (C:=C) (sz:=cs.length) (xs:=[x]) (vs:=[xv]) (arr:=xv.cells) (e:=t) (w:=C.w) hs ⟨Nat.le_refl _,fun _ _ _=>rfl,rfl,rfl,rfl⟩ (Nat.le_refl _) (by omega) (by simp; omega)
    (by simp; omega) (by simp only [rowCells_one]; intro k hk; simp at hk; simp [hk]) (.cons hx .nil)
   refine ⟨_,_,?_,h1,h2,by rw [hs.len]; exact VR_newptr hs rfl rfl⟩
   simp [Instr.box,newVar,newRow,Ctx.push]
 ·cases hf
def allocV (P:Program) (h:List ABlk) (t:TypeId):Option (AV×List ABlk):=
 match zeroT P t with
 | some z=>boxV h z
 | none=>none
theorem allocV_sound {C:Ctx} {h h':List ABlk} (hs:SR C h) {t:TypeId} {v:AV} (hf:allocV P h t = some (v,h')) :
  ∃ C' v',(Instr.alloc t true (.tuple #[])).run P C.w = .ok v' C'.w∧Ext C C'∧SR C' h'∧VR C' v v':=by
 unfold allocV at hf
 split at hf
 ·rename_i z hz
  obtain ⟨zv,_,hzr,hzv⟩:=run_zeroValue_ok (P:=P) (w:=C.w) hz
  obtain ⟨C',v',hr,h1,h2,h3⟩:=boxV_sound (P:=P) (t:=t) hs hf (hzv C)
  refine ⟨C',v',?_,h1,h2,h3⟩
  simp only [Instr.alloc,Sem.run_bind,hzr,Result.andThen_ok]
  simpa [Instr.box] using hr
 ·cases hf
def mapV (h:List ABlk):AV×List ABlk:=(.map h.length,h ++ [.map []])
theorem mapV_sound {C:Ctx} {h:List ABlk} (hs:SR C h) {t:TypeId} :
  ∃ C' v',(Instr.makeMap t none).run P C.w = .ok v' C'.w∧Ext C C'∧SR C' (mapV h).2∧VR C' (mapV h).1 v':=by
 let l:Loc:={ g:=0,cb:=C.w.heap.size,d:=0,sz:=0,size:=0 }
 let w':World:={ C.w with heap:=C.w.heap.push (.map #[] 0) }
 have hk:Keep C.w w' none:=Keep.alloc C.w _
 have he:=push_ext (C:=C) (l:=l) (Nat.le_refl _) hk
 refine ⟨C.push l w',.map (some C.w.heap.size),by simp [Instr.makeMap,Ctx.push,w'],he,push_SR hs (Nat.le_refl _) hk ?_,?_⟩
 ·exact ⟨l,#[],0,by simp [Ctx.push],rfl,by show (C.w.heap.push (.map #[] 0))[C.w.heap.size]? = _; simp,.nil,.nil,by simp,by simp⟩
 ·simp only [mapV,VR,hs.len]
  refine ⟨push_born hs _ _,_,rfl,fun l' hl' _=>?_⟩
  simp only [Ctx.push,if_true] at hl'
  injection hl' with hl'
  subst hl'
  rfl
theorem rowCells_replicate {sz n:Nat} {v:Value} (hv:v.cells.size = sz) (hpos:0 < sz) {k:Nat} (hk:k < n * sz):(rowCells (List.replicate n v))[k]? = v.cells[k % sz]?:=by
 have h:=rowCells_get (List.replicate n v) (sz:=sz) (by simp [hv]) (k / sz) (by simp; rw [Nat.div_lt_iff_lt_mul hpos]; exact hk) (k % sz) (Nat.mod_lt _ hpos)
 rw [show k / sz * sz + k % sz = k by rw [Nat.mul_comm]; exact Nat.div_add_mod k sz] at h
 rw [h]
 simp
theorem range_zero_cells {z:Array Value} {n:Nat} (hz:0 < z.size):∀ k,k < n→(((Array.range n).map (z[· % z.size]!)))[k]? = z[k % z.size]?:=by
 intro k hk
 have hm:k % z.size < z.size:=Nat.mod_lt _ hz
 simp [hk,hm]
def makeSliceV (P:Program) (h:List ABlk) (t:TypeId) (len cap:AV):Option (AV×List ABlk):=
 match P.underlying t,len,cap with
 | some (.slice e),.int _ n,.int _ c=>
  match zeroT P e,sizeT P e,P.info? e with
  | some z,some sz,some i=>match cellsV z with
   | some cs=>if 0≤n∧n≤c∧c < 2 ^ 40∧i.bytes * c≤2 ^ 47∧cs.length = sz∧0 < sz then
     some (.hsl h.length 0 0 n.toNat (some c.toNat),h ++ [.row 0 sz (List.replicate c.toNat z)]) else none
   | none=>none
  | _,_,_=>none
 | _,_,_=>none
theorem wrap64_small {n:Int} (h0:0≤n) (h:n < 2 ^ 40):IntKind.i64.wrap n = n:=by
 have e:IntKind.i64.wrap n = (if (true && decide (n % 2 ^ 64 ≥ 2 ^ 63)) = true then n % 2 ^ 64 - 2 ^ 64 else n % 2 ^ 64):=rfl
 have e2:n % 2 ^ 64 = n:=by omega
 rw [e,e2]
 simp
 omega
theorem makeSliceV_sound {C:Ctx} {h h':List ABlk} (hs:SR C h) {t:TypeId} {len cap v:AV} (hf:makeSliceV P h t len cap = some (v,h')) {lv cv:Value} (hl:VR C len lv) (hc:VR C cap cv) :
  ∃ C' v',(Instr.makeSlice t lv cv).run P C.w = .ok v' C'.w∧Ext C C'∧SR C' h'∧VR C' v v':=by
 unfold makeSliceV at hf
 split at hf
 ·rename_i e _ n _ c ht
  split at hf
  ·rename_i z sz i hz hsz hi
   split at hf
   ·rename_i cs hcs
    split at hf
    ·rename_i hcond
     obtain ⟨h0,h1,h2,h3,h4,h5⟩:=hcond
     injection hf with hf; injection hf with e1 e2; subst e1 e2
     simp only [VR] at hl hc; subst hl hc
     obtain ⟨zv,_,hzr,hzv⟩:=run_zeroValue_ok (P:=P) (w:=C.w) hz
     obtain ⟨hcl,_⟩:=cellsV_sound hcs (hzv C)
     have hzl:=hcl.length
     simp only [Array.length_toList] at hzl
     have hzs:zv.cells.size = sz:=by omega
     let arr:Array Value:=(Array.range (c.toNat * sz)).map (zv.cells[· % zv.cells.size]!)
     have hsa:arr.size = c.toNat * sz:=by simp [arr]
     obtain ⟨g1,g2,_⟩:=new_row (C:=C) (sz:=sz) (xs:=List.replicate c.toNat z) (vs:=List.replicate c.toNat zv) (arr:=arr) (e:=e) (w:=C.w) hs ⟨Nat.le_refl _,fun _ _ _=>rfl,rfl,rfl,rfl⟩ (Nat.le_refl _) h5
      (by simp [hsa]) (by simp [hzs]) (by
       intro k hk
       rw [rowCells_length (sz:=sz) _ (by simp [hzs])] at hk
       simp at hk
       have a1:=rowCells_replicate (n:=c.toNat) hzs h5 hk
       have a2:=range_zero_cells (z:=zv.cells) (n:=c.toNat * sz) (by omega) k hk
       rw [hzs,← a1] at a2
       rw [show arr[k]? = _ from by simpa [arr,hzs] using a2]
       simp) (VRL.replicate _ (hzv C))
     refine ⟨_,.slice (some ⟨C.w.heap.size,0,none⟩) n.toNat c.toNat,?_,g1,g2,?_⟩
     ·have w1:=wrap64_small h0 (by omega:n < 2 ^ 40)
      have w2:=wrap64_small (by omega:0≤c) h2
      have hne:¬ (c < 0):=by omega
      have hne2:¬ ((i.bytes:Int) * c > 2 ^ 48):=by (have:(2:Int)^47≤2^48:=by decide); omega
      simp only [Instr.makeSlice,Sem.run_bind,run_underlying_ok ht,Result.andThen_ok,asInt,asIntOf,Sem.run_pure,run_typeInfo_ok hi,w1,w2]
      rw [if_neg (by simp only [Bool.or_eq_true,decide_eq_true_eq,not_or]; exact ⟨⟨⟨hne,hne2⟩,by omega⟩,by omega⟩)]
      simp only [Sem.run_bind,run_askRoom,Sem.run_pure,Result.andThen_ok,run_sizeOf_ok hsz,newRow,Ctx.push,Sem.run_ite,hzr,run_newObj]
      split
      ·rename_i h0
       have:arr = (Array.range (c.toNat * sz)).map ((#[]:Array Value)[· % (#[]:Array Value).size]!):=by simp [arr,h0]
       rw [this]
      ·rfl
     ·simp only [VR,hs.len]
      refine ⟨push_born hs _ _,_,_,rfl,by omega,by simp,fun l' hl'=>?_⟩
      simp only [Ctx.push,if_true] at hl'
      injection hl' with hl'
      subst hl'
      exact ⟨Nat.zero_le _,fun _=>⟨fun _=>by simp,by simp [hsa]⟩⟩
    ·cases hf
   ·cases hf
  ·cases hf
 ·cases hf
end Go.AL
namespace Go.AL
open Go
variable {P:Program}
theorem rowCells_set {sz:Nat}:∀ (vs:List Value),(∀ v ∈ vs,v.cells.size = sz)→∀ (i:Nat) (_:i < vs.length) (v:Value),v.cells.size = sz →
  rowCells (vs.set i v) = (rowCells vs).take (i * sz) ++ v.cells.toList ++ (rowCells vs).drop (i * sz + sz)
 | [],_,i,hi,_,_=>by simp at hi
 | x :: vs,h,i,hi,v,hv=>by
  have hx:=h x (by simp)
  cases i with
  | zero=>
   simp only [List.set_cons_zero,rowCells,List.flatMap_cons,Nat.zero_mul,List.take_zero,List.nil_append,Nat.zero_add]
   rw [List.drop_append_of_le_length (by simp [hx])]
   have:x.cells.toList.drop sz = []:=by simp [hx]
   rw [this]; simp
  | succ i=>
   have ih:=rowCells_set vs (fun y hy=>h y (by simp [hy])) i (by simpa using hi) v hv
   simp only [rowCells] at ih
   simp only [List.set_cons_succ,rowCells,List.flatMap_cons,Nat.succ_mul]
   rw [ih]
   rw [show i * sz + sz = x.cells.toList.length + i * sz by rw [Array.length_toList,hx]; omega,List.take_append]
   rw [show x.cells.toList.length + i * sz + sz = x.cells.toList.length + (i * sz + sz) by omega,List.drop_append]
   simp
   have e1:x.cells.toList.drop (x.cells.size + (i * sz + sz)) = []:=by simp
   have e2:x.cells.toList.take (x.cells.size + i * sz) = x.cells.toList:=by rw [List.take_of_length_le]; simp
   rw [e1,e2]
   simp [hx,Nat.add_comm]
def partsV (sz:Nat) (xs:List AV):List (Nat×AV)→Option (List AV)
 | []=>some xs
 | (i,v) :: rest=>match cellsV v with
  | some cs=>if i < xs.length∧cs.length = sz then partsV sz (xs.set i v) rest else none
  | none=>none
theorem partsV_sound {C:Ctx} {sz:Nat}:∀ {parts:List (Nat×AV)} {vparts:List (Nat×Value)} {xs r:List AV} {vs:List Value},
  partsV sz xs parts = some r→VRP C parts vparts→VRL C xs vs→(∀ v ∈ vs,v.cells.size = sz) →
  ∃ rv,Instr.fill (fun i=>some (i * sz,sz)) (rowCells vs).toArray vparts = some (rowCells rv).toArray∧VRL C r rv∧(∀ v ∈ rv,v.cells.size = sz)∧rv.length = vs.length:=by
 intro parts
 induction parts with
 | nil=>
  intro vparts xs r vs h hp hl hsz
  cases vparts with
  | cons _ _=>exact hp.elim
  | nil=>simp only [partsV] at h; injection h with h; subst h; exact ⟨vs,by simp [Instr.fill],hl,hsz,rfl⟩
 | cons p parts ih=>
  intro vparts xs r vs h hp hl hsz
  cases vparts with
  | nil=>exact hp.elim
  | cons q vparts=>
   obtain ⟨i,x⟩:=p
   obtain ⟨j,v⟩:=q
   obtain ⟨rfl,hx,hp⟩:=hp
   simp only [partsV] at h
   split at h
   ·rename_i cs hcs
    split at h
    ·rename_i hc
     obtain ⟨hil,hcl⟩:=hc
     obtain ⟨hv,_⟩:=cellsV_sound hcs hx
     have hvl:=hv.length
     simp only [Array.length_toList] at hvl
     have hlen:=hl.length
     have hvs:v.cells.size = sz:=by omega
     have hmem:∀ y ∈ vs.set i v,y.cells.size = sz:=by
      intro y hy
      rcases List.mem_or_eq_of_mem_set hy with hy | rfl
      ·exact hsz y hy
      ·exact hvs
     obtain ⟨rv,hr,h1,h2,h3⟩:=ih h hp (hl.set i hx) hmem
     refine ⟨rv,?_,h1,h2,by simpa using h3⟩
     have hrl:=rowCells_length vs hsz
     have hmul:(i + 1) * sz≤vs.length * sz:=Nat.mul_le_mul_right _ (by omega)
     rw [Nat.succ_mul] at hmul
     simp only [Instr.fill]
     rw [if_neg (by simp [hvs,hrl]; omega),← hr]
     congr 1
     apply Array.toList_inj.1
     rw [← Array.foldl_toList,Array.toList_zipIdx,foldl_set_toList v.cells.toList (i * sz) 0 _ (by simp [hvs,hrl]; omega)]
     rw [rowCells_set vs hsz i (by omega) v hvs]
     simp [hvs]
    ·cases h
   ·cases h
def bsV (P:Program) (t:TypeId) (len:Nat) (parts:List (Nat×AV)):Option AV:=
 match P.underlying t with
 | some (.slice e)=>match zeroT P e,sizeT P e with
  | some z,some sz=>match cellsV z with
   | some cs=>if cs.length = sz∧0 < sz∧len * sz≤2 ^ 24 then (partsV sz (List.replicate len z) parts).map fun xs=>.sl sz xs (some len) else none
   | none=>none
  | _,_=>none
 | _=>none
theorem VRL.len_eq {C:Ctx} {xs:List AV} {vs:List Value} (h:VRL C xs vs):vs.length = xs.length:=h.length.symm
theorem bsV_sound {C:Ctx} {h:List ABlk} (hs:SR C h) {t:TypeId} {len:Nat} {parts:List (Nat×AV)} {vparts:Array (Nat×Value)} {v:AV} (hf:bsV P t len parts = some v) (hp:VRP C parts vparts.toList) :
  ∃ C' v',(Instr.buildSlice t len vparts).run P C.w = .ok v' C'.w∧Ext C C'∧SR C' h∧VR C' v v'∧Keep C.w C'.w none∧C' = C.grow C'.w:=by
 unfold bsV at hf
 split at hf
 ·rename_i e ht
  split at hf
  ·rename_i z sz hz hsz
   split at hf
   ·rename_i cs hcs
    split at hf
    ·rename_i hc
     obtain ⟨hc1,hc2,hc3⟩:=hc
     obtain ⟨xs,hxs,rfl⟩:=Option.map_eq_some_iff.1 hf
     obtain ⟨zv,_,hzr,hzv⟩:=run_zeroValue_ok (P:=P) (w:=C.w) hz
     obtain ⟨hcl,_⟩:=cellsV_sound hcs (hzv C)
     have hzl:=hcl.length
     simp only [Array.length_toList] at hzl
     have hzs:zv.cells.size = sz:=by omega
     have hrep:∀ v ∈ List.replicate len zv,v.cells.size = sz:=by simp [hzs]
     obtain ⟨rv,hr,h1,h2,h3⟩:=partsV_sound hxs hp (VRL.replicate len (hzv C)) hrep
     have hrl:=rowCells_length (List.replicate len zv) hrep
     have hrange:((Array.range (len * sz)).map (zv.cells[· % zv.cells.size]!)) = (rowCells (List.replicate len zv)).toArray:=by
      apply Array.ext_getElem?
      intro k
      by_cases hk:k < len * sz
      ·have e1:=rowCells_replicate (n:=len) hzs hc2 hk
       have e2:=range_zero_cells (z:=zv.cells) (n:=len * sz) (by omega) k hk
       rw [e2,hzs,← e1]
       simp
      ·rw [Array.getElem?_eq_none (by simp; omega),Array.getElem?_eq_none (by simp [hrl]; omega)]
     let w':World:={ C.w with heap:=C.w.heap.push (.cells (rowCells rv).toArray e) }
     have hk:Keep C.w w' none:=Keep.alloc C.w _
     have he:=grow_ext (C:=C) hk
     have hxl:=h1.length
     have hrvl:rv.length = len:=by simpa using h3
     refine ⟨C.grow w',.slice (some ⟨C.w.heap.size,0,none⟩) len len,?_,he,grow_SR hs hk,?_,hk,rfl⟩
     ·have hfit:¬ (len * sz > 2 ^ 24):=by omega
      simp only [Instr.buildSlice,Sem.run_bind,run_underlying_ok ht,Result.andThen_ok,run_sizeOf_ok hsz,if_neg hfit,Sem.run_ite,Sem.run_pure,hzr]
      split
      ·rename_i h0
       have e0:(Array.range (len * sz)).map ((#[]:Array Value)[· % (#[]:Array Value).size]!) = (rowCells (List.replicate len zv)).toArray:=by
        rw [← hrange]; simp [h0]
       simp only [e0,hr,newRow,Sem.run_bind,run_newObj,Result.andThen_ok,Sem.run_pure,Ctx.grow,w']
      ·simp only [hrange,hr,newRow,Sem.run_bind,run_newObj,Result.andThen_ok,Sem.run_pure,Ctx.grow,w']
     ·simp only [VR]
      have hxlen:xs.length = len:=by omega
      refine ⟨_,len,rv,by rw [hxlen],by omega,by simp,fun _=>rfl,fun _=>⟨by simp [Ctx.grow,w'],?_,?_⟩,?_,VRL.ext he _ _ h1⟩
      ·intro hf
       have:=(hs.forb _ hf).1
       simp at this
      ·rintro ⟨b,l,hb,hl,hcb⟩
       have:=hs.lt hb hl
       simp [hcb] at this
      ·exact HoldsRow.of_block (w:=w') (arr:=(rowCells rv).toArray) (e:=e) (fz:=(0,0)) (by simp [w']) h2 (fun k hk=>by simp [hk])
    ·cases hf
   ·cases hf
  ·cases hf
 ·cases hf
end Go.AL
namespace Go.AL
open Go
variable {P:Program}
def plainArg (P:Program) (ats:Array TypeId):Bool:=
 match ats[1]? with
 | some t=>match P.underlying t with
  | some (.int _)=>false
  | some _=>true
  | none=>false
 | none=>true
def drewTo (w:World) (d:Nat):World:={ w with drawn:=d }
theorem run_append_room {w w':World} {ats:Array TypeId} {ty st e:TypeId} {size sLen sCap n:Nat} {a:Addr} {x:Value} {new:Array Value} (hat:ats[0]? = some st) (hst:P.underlying st = some (.slice e)) (hsz:sizeT P e = some size)
  (hp:plainArg P ats = true) (hn:(Builtin.lenOf x).run P w = .ok n w) (hnew:(Builtin.firstCells size n x).run P w = .ok new w) (hroom:sLen + n≤sCap)
  (hstore:(storeCells (a.add (sLen * size)) new.toList).run P w = .ok () w') :
  (Builtin.append_ ats ty #[.slice (some a) sLen sCap,x]).run P w = .ok (.slice (some a) (sLen + n) sCap) w':=by
 unfold Builtin.append_
 unfold plainArg at hp
 simp only [hat,List.getElem?_toArray,List.getElem?_cons_zero,List.getElem?_cons_succ,Sem.run_bind,run_underlying_ok hst,Result.andThen_ok,run_sizeOf_ok hsz]
 split at hp
 ·rename_i t ht
  split at hp
  ·cases hp
  ·rename_i d hni hk
   simp only [ht,Sem.run_bind,run_underlying_ok hk,Result.andThen_ok,Sem.run_pure]
   cases d <;> first | exact absurd rfl (hni _) | (simp only [Bool.false_eq_true,if_false,Sem.run_bind,hn,Result.andThen_ok,if_pos hroom,Bool.not_false,if_true,hnew,hstore,Sem.run_pure])
  ·cases hp
 ·rename_i ht
  simp only [ht,Sem.run_bind,Result.andThen_ok,Sem.run_pure,Bool.false_eq_true,if_false,hn,if_pos hroom,Bool.not_false,if_true,hnew,hstore]
theorem run_append_none {w:World} {ats:Array TypeId} {ty st e:TypeId} {size sLen sCap:Nat} {base:Option Addr} {x:Value} (hat:ats[0]? = some st) (hst:P.underlying st = some (.slice e)) (hsz:sizeT P e = some size)
  (hp:plainArg P ats = true) (hn:(Builtin.lenOf x).run P w = .ok 0 w) (hnew:(Builtin.firstCells size 0 x).run P w = .ok #[] w) (hroom:sLen≤sCap) :
  (Builtin.append_ ats ty #[.slice base sLen sCap,x]).run P w = .ok (.slice base sLen sCap) w:=by
 unfold Builtin.append_
 unfold plainArg at hp
 have hroom':sLen + 0≤sCap:=hroom
 simp only [hat,List.getElem?_toArray,List.getElem?_cons_zero,List.getElem?_cons_succ,Sem.run_bind,run_underlying_ok hst,Result.andThen_ok,run_sizeOf_ok hsz]
 split at hp
 ·rename_i t ht
  split at hp
  ·cases hp
  ·rename_i d hni hk
   simp only [ht,Sem.run_bind,run_underlying_ok hk,Result.andThen_ok,Sem.run_pure]
   cases base <;> cases d <;> first | exact absurd rfl (hni _) | (simp only [Bool.false_eq_true,if_false,Sem.run_bind,hn,Result.andThen_ok,Nat.add_zero,if_pos hroom,Bool.not_false,if_true,hnew,Sem.run_pure,storeCells])
  ·cases hp
 ·rename_i ht
  cases base <;> simp only [ht,Sem.run_bind,Result.andThen_ok,Sem.run_pure,Bool.false_eq_true,if_false,hn,Nat.add_zero,if_pos hroom,Bool.not_false,if_true,hnew,Sem.run_bind,storeCells]
theorem growBy_le (newLen:Nat):∀ (r c:Nat),c < newLen→Builtin.growBy newLen r c≤2 * newLen + 192
 | 0,c,h=>by simp only [Builtin.growBy]; omega
 | r + 1,c,h=>by
  simp only [Builtin.growBy]
  rw [if_neg (by omega)]
  by_cases h2:c + (c + 768) / 4 < newLen
  ·exact growBy_le newLen r _ h2
  ·cases r with
   | zero=>simp only [Builtin.growBy]; omega
   | succ r=>simp only [Builtin.growBy]; rw [if_pos (by omega)]; omega
theorem nextslicecap_le {n c:Nat} (h:c < n):Builtin.nextslicecap n c≤2 * n + 192:=by
 unfold Builtin.nextslicecap
 split
 ·omega
 ·split
  ·omega
  ·exact growBy_le n 4 c h
def tapeCap (w:World) (need cap:Nat) (e:TypeId):Nat:=need + w.tape w.drawn (.appendCap need cap e) % (2 ^ 63 - need)
theorem run_append_grow {w:World} {ats:Array TypeId} {ty st e:TypeId} {size sLen sCap n:Nat} {base:Option Addr} {x:Value} {old new:Array Value} {z:Value} {i:TypeInfo} (hat:ats[0]? = some st) (hst:P.underlying st = some (.slice e))
  (hsz:sizeT P e = some size) (hi:P.info? e = some i) (hz:(zeroValue e).run P (drewTo w (w.drawn + 1)) = .ok z (drewTo w (w.drawn + 1)))
  (hp:plainArg P ats = true) (hn:(Builtin.lenOf x).run P w = .ok n w) (hnew:(Builtin.firstCells size n x).run P (drewTo w (w.drawn + 1)) = .ok new (drewTo w (w.drawn + 1))) (hroom:sCap < sLen + n)
  (hold:(Builtin.firstCells size sLen (.slice base sLen sCap)).run P (drewTo w (w.drawn + 1)) = .ok old (drewTo w (w.drawn + 1)))
  (hneed:sLen + n < 2 ^ 40) (hbytes:(2 * (sLen + n) + 192) * i.bytes≤2 ^ 48) (hpos:0 < i.bytes) :
  (Builtin.append_ ats ty #[.slice base sLen sCap,x]).run P w =
   .ok (.slice (some ⟨w.heap.size,0,none⟩) (sLen + n) (tapeCap w (sLen + n) sCap e))
    { drewTo w (w.drawn + 1) with heap:=w.heap.push (.cells (old ++ new ++ Builtin.zeroCells z.cells (tapeCap w (sLen + n) sCap e - (sLen + n))) e) }:=by
 unfold Builtin.append_
 unfold plainArg at hp
 have h1:¬ (sLen + n≤sCap):=by omega
 have h2:¬ (((sLen + n:Nat):Int) > IntKind.i64.max∧(false = true ∨ i.bytes = 0)):=by rintro ⟨_,h | h⟩ <;> simp_all
 have h3:¬ (Builtin.nextslicecap (sLen + n) sCap * i.bytes > 2 ^ 48):=by
  have:=Nat.mul_le_mul_right i.bytes (nextslicecap_le hroom)
  omega
 have hch:(choose (.appendCap (sLen + n) sCap e)).run P w = .ok (tapeCap w (sLen + n) sCap e) (drewTo w (w.drawn + 1)):=by
  simp [Question.forced,Question.cut,tapeCap,drewTo]
 have hnr:∀ o,(newRow e o).run P (drewTo w (w.drawn + 1)) = .ok ⟨w.heap.size,0,none⟩ { drewTo w (w.drawn + 1) with heap:=w.heap.push (.cells o e) }:=by
  intro o; simp only [newRow,Sem.run_bind,run_newObj,Result.andThen_ok,Sem.run_pure]; rfl
 have hti:∀ w',(typeInfo e).run P w' = .ok i w':=fun w'=>run_typeInfo_ok hi
 simp only [hat,List.getElem?_toArray,List.getElem?_cons_zero,List.getElem?_cons_succ,Sem.run_bind,run_underlying_ok hst,Result.andThen_ok,run_sizeOf_ok hsz]
 split at hp
 ·rename_i t ht
  split at hp
  ·cases hp
  ·rename_i d hni hk
   simp only [ht,Sem.run_bind,run_underlying_ok hk,Result.andThen_ok,Sem.run_pure]
   cases d <;> first | exact absurd rfl (hni _) | (simp only [Bool.false_eq_true,if_false,Sem.run_bind,hn,Result.andThen_ok,if_neg h1,Bool.not_false,if_true,hti,if_neg h3,hch,run_askRoom,hold,hnew,hz,hnr,Sem.run_pure,false_or,show ¬ (((sLen + n:Nat):Int) > IntKind.i64.max∧i.bytes = 0) from fun h=>by omega])
  ·cases hp
 ·rename_i ht
  simp only [ht,Sem.run_bind,Result.andThen_ok,Sem.run_pure,Bool.false_eq_true,if_false,hn,if_neg h1,Bool.not_false,if_true,hti,if_neg h3,hch,run_askRoom,hold,hnew,hz,hnr,false_or,show ¬ (((sLen + n:Nat):Int) > IntKind.i64.max∧i.bytes = 0) from fun h=>by omega]
end Go.AL
namespace Go.AL
open Go
variable {P:Program}
def contentV (h:List ABlk) (size:Nat):AV→Option (List AV)
 | .nils=>some []
 | .sl sz xs _=>if sz = size then some xs else none
 | .vw sz xs=>if sz = size then some xs else none
 | .hsl b g i len _=>match rowAt h b g with
  | some (sz,xs)=>if sz = size∧i + len≤xs.length then some ((xs.drop i).take len) else none
  | none=>none
 | _=>none
theorem HoldsRow.same_heap {w w':World} {a:Addr} {sz:Nat} {vs:List Value} (e:w'.heap = w.heap) (h:HoldsRow w a sz vs):HoldsRow w' a sz vs:=
 fun i hi=>⟨(h i hi).1,fun j hj=>by have:=(h i hi).2 j hj; simpa [World.cell?,e] using this⟩
theorem contentV_sound {C:Ctx} {h:List ABlk} (hs:SR C h) {size:Nat} {x:AV} {xs:List AV} (hf:contentV h size x = some xs) {v:Value} (hx:VR C x v) :
  ∃ a c vs,v = .slice a xs.length c∧xs.length≤c∧VRL C xs vs∧(∀ y ∈ vs,y.cells.size = size)∧(∀ w,(Builtin.lenOf v).run P w = .ok xs.length w) ∧
   (∀ w,w.heap = C.w.heap→(Builtin.firstCells size xs.length v).run P w = .ok (rowCells vs).toArray w):=by
 unfold contentV at hf
 split at hf
 ·injection hf with hf; subst hf
  simp only [VR] at hx; subst hx
  exact ⟨none,0,[],rfl,Nat.le_refl _,.nil,by simp,fun w=>by simp [Builtin.lenOf],fun w _=>by simp [Builtin.firstCells,rowCells]⟩
 ·rename_i sz xs' cap
  split at hf
  ·rename_i hsz
   subst hsz
   injection hf with hf; subst hf
   simp only [VR] at hx
   obtain ⟨a,c,vs,rfl,hc,_,hsp,_,hh,hl⟩:=hx
   refine ⟨some a,c,vs,rfl,hc,hl,hh.sizes,fun w=>by simp [Builtin.lenOf],fun w e=>?_⟩
   have:=run_loadRow' (P:=P) (w:=w) (c:=c) (by have:=hl.length; omega) hsp (hh.same_heap e)
   rw [hl.length]
   simpa [Builtin.firstCells] using this
  ·cases hf
 ·rename_i sz xs'
  split at hf
  ·rename_i hsz
   subst hsz
   injection hf with hf; subst hf
   simp only [VR] at hx
   rcases hx with ⟨rfl,rfl⟩ | ⟨a,c,vs,rfl,hc,hsp,_,hh,hl⟩
   ·exact ⟨none,0,[],rfl,Nat.le_refl _,.nil,by simp,fun w=>by simp [Builtin.lenOf],fun w _=>by simp [Builtin.firstCells,rowCells]⟩
   refine ⟨some a,c,vs,rfl,hc,hl,hh.sizes,fun w=>by simp [Builtin.lenOf],fun w e=>?_⟩
   have:=run_loadRow' (P:=P) (w:=w) (c:=c) (by have:=hl.length; omega) hsp (hh.same_heap e)
   rw [hl.length]
   simpa [Builtin.firstCells] using this
  ·cases hf
 ·rename_i b g i len cap
  split at hf
  ·rename_i sz rxs hr
   split at hf
   ·rename_i hc
    obtain ⟨rfl,hle⟩:=hc
    injection hf with hf; subst hf
    obtain ⟨hb,hpos,l,arr,e,vs,h1,h2,h3,h4,h5,h6,h7,h8⟩:=rowAt_spec hs hr
    simp only [VR] at hx
    obtain ⟨hb0,a,c,rfl,hc,hcap,hx⟩:=hx
    obtain ⟨ha,hsize⟩:=(hx l h1).2 h2.symm
    have hlen:((rxs.drop i).take len).length = len:=by simp; omega
    have hl:=(h8.drop i).take len
    have hh:HoldsRow C.w ⟨l.cb,l.d + i * sz,none⟩ sz ((vs.drop i).take len):=h7.drop_take
    refine ⟨some a,c,(vs.drop i).take len,by rw [hlen],by rw [hlen]; exact hc,hl,hh.sizes,fun w=>by simp [Builtin.lenOf]; omega,fun w e=>?_⟩
    rw [hlen]
    have hvl:((vs.drop i).take len).length = len:=by rw [← hl.length]; exact hlen
    by_cases hc0:c = 0
    ·have:len = 0:=by omega
     subst this
     simp [Builtin.firstCells,loadCells,loadCellsFrom,rowCells]
    ·have ha:=ha hc0
     subst ha
     have:=run_loadRow (P:=P) (w:=w) (a:=⟨l.cb,l.d + i * l.sz,none⟩) rfl (by rw [h3]; exact hh.same_heap e)
     rw [hvl] at this
     simpa [Builtin.firstCells] using this
   ·cases hf
  ·cases hf
 ·cases hf
theorem rowCells_append (a b:List Value):rowCells (a ++ b) = rowCells a ++ rowCells b:=by simp [rowCells]
structure ElemT where
 e:TypeId
 size:Nat
 bytes:Nat
def elemT (P:Program) (st:TypeId):Option ElemT:=
 match P.underlying st with
 | some (.slice e)=>match zeroT P e,sizeT P e,P.info? e with
  | some z,some sz,some i=>match cellsV z with
   | some cs=>if cs.length = sz∧0 < sz∧0 < i.bytes then some ⟨e,sz,i.bytes⟩ else none
   | none=>none
  | _,_,_=>none
 | _=>none
theorem elemT_spec {st:TypeId} {E:ElemT} (h:elemT P st = some E):P.underlying st = some (.slice E.e)∧sizeT P E.e = some E.size∧0 < E.size∧(∃ i,P.info? E.e = some i∧i.bytes = E.bytes)∧0 < E.bytes ∧
  ∃ z zv,zeroT P E.e = some z∧(∀ w,(zeroValue E.e).run P w = .ok zv w)∧zv.cells.size = E.size∧∀ C,VR C z zv:=by
 unfold elemT at h
 split at h
 ·rename_i e ht
  split at h
  ·rename_i z sz i hz hsz hi
   split at h
   ·rename_i cs hcs
    split at h
    ·rename_i hc
     obtain ⟨h1,h2,h3⟩:=hc
     injection h with h; subst h
     have hzz:∃ v,(P.info? e).bind (·.zero) = some v∧∀ C,VR C z v:=by
      obtain ⟨v,hv,_,hr⟩:=run_zeroValue_ok (P:=P) (w:=default) hz
      exact ⟨v,hv,hr⟩
     obtain ⟨zv,hzv,hr⟩:=hzz
     have hl:=(cellsV_sound hcs (hr ⟨fun _=>none,0,fun _=>False,fun _=>False,default⟩)).1.length
     simp only [Array.length_toList] at hl
     refine ⟨ht,hsz,h2,⟨i,hi,rfl⟩,h3,z,zv,hz,fun w=>?_,by show zv.cells.size = sz; omega,hr⟩
     obtain ⟨v,hv,hrun,_⟩:=run_zeroValue_ok (P:=P) (w:=w) hz
     rw [hzv] at hv
     injection hv with hv
     subst hv
     exact hrun
    ·cases h
   ·cases h
  ·cases h
 ·cases h
def solidElems (xs:List AV) (sz:Nat):Bool:=xs.all fun x=>match cellsV x with | some cs=>cs.length == sz && cs.all solid | none=>false
def growOk (E:ElemT) (need:Nat):Bool:=need < 2 ^ 40 && (2 * need + 192) * E.bytes≤2 ^ 48
def appendV (P:Program) (h:List ABlk) (ats:Array TypeId) (s x:AV):Option (AV×List ABlk):=
 match (ats[0]?).bind (elemT P),plainArg P ats with
 | some E,true=>
  match contentV h E.size s,contentV h E.size x with
  | some xs,some ys=>
   if ys.length = 0 then some (s,h) else
   let need:=xs.length + ys.length
   let grown:Option (AV×List ABlk):=if growOk E need then some (.hsl h.length 0 0 need none,h ++ [.row 0 E.size (xs ++ ys)]) else none
   match s with
   | .nils=>grown
   | .sl _ _ (some c)=>if c < need then grown else none
   | .sl _ _ none=>none
   | .hsl b g i len (some c)=>
    if c < need then grown else
    match rowAt h b g with
    | some (sz,rxs)=>if solidElems ys E.size && i + need≤rxs.length then some (.hsl b g i need (some c),h.set b (.row g sz (rxs.take (i + len) ++ ys ++ rxs.drop (i + need)))) else none
    | none=>none
   | .hsl b g i len none=>
    match rowAt h b g with
    | some (sz,rxs)=>if i + len = rxs.length∧solidElems ys E.size = true∧growOk E need = true then some (.hsl b (g + 1) 0 need none,h.set b (.row (g + 1) sz (xs ++ ys))) else none
    | none=>none
   | _=>none
  | _,_=>none
 | _,_=>none
theorem zeroCells_size (z:Array Value) (n:Nat):(Builtin.zeroCells z n).size = n * z.size:=by simp [Builtin.zeroCells]
theorem solidElems_one {C:Ctx} {sz:Nat}:∀ {xs:List AV} {vs:List Value},solidElems xs sz = true→VRL C xs vs→∀ c ∈ rowCells vs,c.oneCell' = true
 | [],vs,_,hl,c,hc=>by simp only [VRL] at hl; subst hl; simp [rowCells] at hc
 | x :: xs,vs,h,hl,c,hc=>by
  simp only [VRL] at hl
  obtain ⟨y,ys,rfl,h1,h2⟩:=hl
  simp only [solidElems,List.all_cons,Bool.and_eq_true] at h
  simp only [rowCells,List.flatMap_cons,List.mem_append] at hc
  rcases hc with hc | hc
  ·have hx:=h.1
   split at hx
   ·rename_i cs hcs
    simp only [Bool.and_eq_true] at hx
    exact solids_one hx.2 (cellsV_sound hcs h1).1 c hc
   ·cases hx
  ·exact solidElems_one (xs:=xs) (by simpa [solidElems] using h.2) h2 c hc
def grownWorld (w:World) (arr:Array Value) (e:TypeId):World:={ drewTo w (w.drawn + 1) with heap:=w.heap.push (.cells arr e) }
theorem grown_keep (w:World) (arr:Array Value) (e:TypeId):Keep w (grownWorld w arr e) none where
 size:=by simp [grownWorld]
 same blk hb _:=by simp [grownWorld,Array.getElem?_push,Nat.ne_of_lt hb]
 tape:=rfl
 os:=rfl
 output:=rfl
theorem rowCells_take {sz:Nat}:∀ (vs:List Value),(∀ v ∈ vs,v.cells.size = sz)→∀ m,rowCells (vs.take m) = (rowCells vs).take (m * sz)
 | [],_,m=>by simp [rowCells]
 | v :: vs,h,m=>by
  have hv:=h v (by simp)
  cases m with
  | zero=>simp [rowCells]
  | succ m=>
   have ih:=rowCells_take vs (fun x hx=>h x (by simp [hx])) m
   simp only [rowCells] at ih
   simp only [List.take_succ_cons,rowCells,List.flatMap_cons]
   rw [ih,show (m + 1) * sz = v.cells.toList.length + m * sz by rw [Array.length_toList,hv,Nat.succ_mul,Nat.add_comm],List.take_append]
   have e1:v.cells.toList.take (v.cells.toList.length + m * sz) = v.cells.toList:=List.take_of_length_le (by omega)
   rw [e1]
   congr 2
   omega
theorem rowCells_drop {sz:Nat}:∀ (vs:List Value),(∀ v ∈ vs,v.cells.size = sz)→∀ m,rowCells (vs.drop m) = (rowCells vs).drop (m * sz)
 | [],_,m=>by simp [rowCells]
 | v :: vs,h,m=>by
  have hv:=h v (by simp)
  cases m with
  | zero=>simp [rowCells]
  | succ m=>
   have ih:=rowCells_drop vs (fun x hx=>h x (by simp [hx])) m
   simp only [rowCells] at ih
   simp only [List.drop_succ_cons,rowCells,List.flatMap_cons]
   rw [ih,show (m + 1) * sz = v.cells.toList.length + m * sz by rw [Array.length_toList,hv,Nat.succ_mul,Nat.add_comm],List.drop_append]
   have e1:v.cells.toList.drop (v.cells.toList.length + m * sz) = []:=List.drop_of_length_le (by omega)
   rw [e1,List.nil_append]
   congr 1
   omega
theorem appendV_sound {C:Ctx} {h h':List ABlk} (hs:SR C h) {ats:Array TypeId} {ty:TypeId} {s x v:AV} (hf:appendV P h ats s x = some (v,h')) {sv xv:Value} (hsv:VR C s sv) (hxv:VR C x xv) :
  ∃ C' v',(Builtin.append_ ats ty #[sv,xv]).run P C.w = .ok v' C'.w∧Ext C C'∧SR C' h'∧VR C' v v':=by
 unfold appendV at hf
 split at hf
 ·rename_i E hE hp
  obtain ⟨st,hat,hE⟩:=Option.bind_eq_some_iff.1 hE
  obtain ⟨ht,hsz,hpos,⟨i,hi,hib⟩,hbpos,z,zv,hz,hzr,hzs,_⟩:=elemT_spec hE
  split at hf
  ·rename_i xs ys hxs hys
   obtain ⟨sa,sc,svs,rfl,hsc,hsl,hss,hslen,hsfirst⟩:=contentV_sound (P:=P) hs hxs hsv
   obtain ⟨xa,xc,xvs,rfl,hxc,hxl,hxss,hxlen,hxfirst⟩:=contentV_sound (P:=P) hs hys hxv
   split at hf
   ·rename_i h0
    injection hf with hf; injection hf with e1 e2; subst e1 e2
    have h1:=hxlen C.w
    have h2:=hxfirst C.w rfl
    have hnil:rowCells xvs = []:=by
     have:=hxl.length
     rw [h0] at this
     have:xvs = []:=List.eq_nil_of_length_eq_zero this.symm
     simp [this,rowCells]
    rw [h0] at h1 h2
    rw [hnil] at h2
    exact ⟨C,_,run_append_none hat ht hsz hp (by rw [h0]; exact h1) (by rw [h0]; exact h2) hsc,Ext.refl C,hs,hsv⟩
   ·rename_i hne
    simp only at hf
    have hmem:∀ y ∈ svs ++ xvs,y.cells.size = E.size:=by
     intro y hy
     rcases List.mem_append.1 hy with h | h
     ·exact hss y h
     ·exact hxss y h
    have hrl:=rowCells_length (svs ++ xvs) hmem
    have hl1:=hsl.length
    have hl2:=hxl.length
    have grow:growOk E (xs.length + ys.length) = true→sc < xs.length + ys.length→∃ arr:Array Value,∃ nc:Nat,xs.length + ys.length≤nc∧arr.size = nc * E.size ∧
      (∀ k (hk:k < (rowCells (svs ++ xvs)).length),arr[k]? = some (rowCells (svs ++ xvs))[k]) ∧
      (Builtin.append_ ats ty #[.slice sa xs.length sc,.slice xa ys.length xc]).run P C.w = .ok (.slice (some ⟨C.w.heap.size,0,none⟩) (xs.length + ys.length) nc) (grownWorld C.w arr E.e):=by
     intro hg hlt
     simp only [growOk,Bool.and_eq_true,decide_eq_true_eq] at hg
     have hb:=hg.2
     rw [← hib] at hb
     have hrun:=run_append_grow (P:=P) (w:=C.w) (ty:=ty) (z:=zv) hat ht hsz hi (hzr _) hp (hxlen _) (hxfirst (drewTo C.w (C.w.drawn + 1)) rfl) hlt (hsfirst (drewTo C.w (C.w.drawn + 1)) rfl) hg.1 hb (by omega)
     have hnc:xs.length + ys.length≤tapeCap C.w (xs.length + ys.length) sc E.e:=Nat.le_add_right _ _
     have ha1:=rowCells_length svs hss
     have ha2:=rowCells_length xvs hxss
     refine ⟨_,_,hnc,?_,?_,hrun⟩
     ·simp only [Array.size_append,List.size_toArray,ha1,ha2,zeroCells_size,hzs,← hl1,← hl2]
      rw [← Nat.add_mul,← Nat.add_mul]
      congr 1
      omega
     ·intro k hk
      rw [← Array.getElem?_toList]
      simp only [Array.toList_append]
      rw [← rowCells_append,List.getElem?_append_left hk]
      simp [hk]
    have fresh:growOk E (xs.length + ys.length) = true→sc < xs.length + ys.length→∃ C' v',(Builtin.append_ ats ty #[.slice sa xs.length sc,.slice xa ys.length xc]).run P C.w = .ok v' C'.w∧Ext C C' ∧
      SR C' (h ++ [.row 0 E.size (xs ++ ys)])∧VR C' (.hsl h.length 0 0 (xs.length + ys.length) none) v':=by
     intro hg hlt
     obtain ⟨arr,nc,hnc,hsa,hcells,hrun⟩:=grow hg hlt
     have hk:=grown_keep C.w arr E.e
     have hd:=Keep.drew C.w (C.w.drawn + 1)
     have hnn:=Nat.mul_le_mul_right E.size hnc
     obtain ⟨g1,g2,_⟩:=new_row (C:=C) (sz:=E.size) (xs:=xs ++ ys) (vs:=svs ++ xvs) (arr:=arr) (e:=E.e) (w:=drewTo C.w (C.w.drawn + 1)) hs hd (Nat.le_refl _) hpos (by rw [List.length_append,hsa]; exact hnn) hmem hcells (hsl.append hxl)
     refine ⟨_,_,hrun,g1,g2,?_⟩
     simp only [VR,hs.len]
     refine ⟨push_born hs _ _,_,nc,rfl,hnc,by simp,fun l' hl'=>?_⟩
     simp only [Ctx.push,if_true] at hl'
     injection hl' with hl'
     subst hl'
     exact ⟨Nat.zero_le _,fun _=>⟨fun _=>by simp [drewTo],by simp [hsa]⟩⟩
    cases s with
    | nils=>
     simp only at hf
     split at hf
     ·rename_i hg
      injection hf with hf; injection hf with e1 e2; subst e1 e2
      simp only [VR] at hsv
      injection hsv with _ _ hc0
      exact fresh hg (by omega)
     ·cases hf
    | sl sz' xs' cap=>
     cases cap with
     | none=>cases hf
     | some c=>
     simp only [VR] at hsv
     obtain ⟨_,c',_,heq,_,hcc,_⟩:=hsv
     injection heq with _ _ hc0
     have:=hcc c rfl
     simp only at hf
     split at hf
     ·split at hf
      ·rename_i hg
       injection hf with hf; injection hf with e1 e2; subst e1 e2
       exact fresh hg (by omega)
      ·cases hf
     ·cases hf
    | hsl b g i' len cap=>
     have hsv':=hsv
     simp only [VR] at hsv
     obtain ⟨hb0,a',c',heq,hlc,hcc,hx⟩:=hsv
     injection heq with hea hel hec
     have hcont:=hxs
     unfold contentV at hcont
     simp only at hcont
     cases hr:rowAt h b g with
     | none=>simp [hr] at hcont
     | some p=>
     obtain ⟨sz,rxs⟩:=p
     simp only [hr] at hcont
     split at hcont
     case isFalse=>cases hcont
     rename_i hfits
     obtain ⟨rfl,hfits⟩:=hfits
     injection hcont with hcont
     obtain ⟨hb,_,l,arr,e,vs,h1,h2,h3,h4,h5,h6,h7,h8⟩:=rowAt_spec hs hr
     obtain ⟨ha',hsize⟩:=(hx l h1).2 h2.symm
     have hbn:b < C.n:=hb0.1
     have hvlen:=h8.length
     have hlsz:=h3
     subst hea hec
     have hysolid:solidElems ys E.size = true→∀ c ∈ rowCells xvs,c.oneCell' = true:=fun hso=>solidElems_one hso hxl
     have room:solidElems ys E.size = true→xs.length + ys.length≤sc→∃ arr':Array Value,arr'.size = arr.size ∧
       (∀ k,arr'[k]? = if l.d + (i' + len) * E.size≤k∧k < l.d + (i' + len) * E.size + (rowCells xvs).length then (rowCells xvs)[k - (l.d + (i' + len) * E.size)]? else arr[k]?) ∧
       (Builtin.append_ ats ty #[.slice (some a') xs.length sc,.slice xa ys.length xc]).run P C.w = .ok (.slice (some a') (xs.length + ys.length) sc) (World.put C.w l.cb arr' e):=by
      intro hso hle
      have hrl2:=rowCells_length xvs hxss
      have hsc0:sc ≠ 0:=by omega
      have ha2:=ha' hsc0
      have hfit2:l.d + (i' + len) * E.size + (rowCells xvs).length≤arr.size:=by
       rw [h5,hrl2,← hl2,Nat.add_assoc,← Nat.add_mul]
       refine Nat.le_trans ?_ hsize
       rw [h3]
       exact Nat.add_le_add_left (Nat.mul_le_mul_right _ (by omega)) _
      refine ⟨(arr.toList.take (l.d + (i' + len) * E.size) ++ rowCells xvs ++ arr.toList.drop (l.d + (i' + len) * E.size + (rowCells xvs).length)).toArray,?_,?_,?_⟩
      ·simp; omega
      ·intro k
       rw [List.getElem?_toArray,seg_get _ _ _ _ (by simpa using hfit2)]
       simp
      ·have hst:=run_storeCells (P:=P) (rowCells xvs) C.w (l.d + (i' + len) * E.size) 0 arr h4 (by simpa using hfit2) (hysolid hso)
       simp only [Nat.add_zero] at hst
       refine run_append_room hat ht hsz hp (hxlen _) (hxfirst _ rfl) hle ?_
       have:a'.add (xs.length * E.size) = ⟨l.cb,l.d + (i' + len) * E.size,none⟩:=by
        rw [ha2,add_plain rfl,h3,← hel,Nat.add_mul,Nat.add_assoc]
       rw [this]
       exact hst
     cases cap with
     | some c=>
      have hc':=hcc c rfl
      subst hc'
      simp only at hf
      split at hf
      ·split at hf
       ·rename_i hg
        injection hf with hf; injection hf with e1 e2; subst e1 e2
        exact fresh hg (by omega)
       ·cases hf
      ·rename_i hroom
       simp only [hr] at hf
       split at hf
       ·rename_i hcond
        simp only [Bool.and_eq_true,decide_eq_true_eq] at hcond
        obtain ⟨hsolid,hfit⟩:=hcond
        injection hf with hf; injection hf with e1 e2; subst e1 e2
        obtain ⟨arr',hsa,hcells,hrun⟩:=room hsolid (by omega)
        have hk:=put_keep C.w l.cb arr' e
        have hext:=upd_ext (C:=C) (l':=l) hbn h1 (.inl rfl) (.inl rfl) hk
        have hxlen':xs.length = len:=hel
        have hrl2:=rowCells_length xvs hxss
        have hvr:=rowCells_length vs h7.sizes
        have hvs':∀ y ∈ vs.take (i' + len) ++ xvs ++ vs.drop (i' + (xs.length + ys.length)),y.cells.size = E.size:=by
         intro y hy
         rcases List.mem_append.1 hy with hy | hy
         ·rcases List.mem_append.1 hy with hy | hy
          ·exact h7.sizes y (List.mem_of_mem_take hy)
          ·exact hxss y hy
         ·exact h7.sizes y (List.mem_of_mem_drop hy)
        have hrc:rowCells (vs.take (i' + len) ++ xvs ++ vs.drop (i' + (xs.length + ys.length))) = (rowCells vs).take ((i' + len) * E.size) ++ rowCells xvs ++ (rowCells vs).drop ((i' + len) * E.size + (rowCells xvs).length):=by
         rw [rowCells_append,rowCells_append,rowCells_take vs h7.sizes,rowCells_drop vs h7.sizes,hrl2]
         congr 2
         rw [← Nat.add_mul,hxlen',← hl2,Nat.add_assoc]
        have hsegfit:(i' + len) * E.size + (rowCells xvs).length≤(rowCells vs).length:=by
         rw [hvr,hrl2,← Nat.add_mul,← hl2]
         exact Nat.mul_le_mul_right _ (by omega)
        refine ⟨C.upd b l _,_,hrun,hext,upd_SR hs hbn h1 (.inl rfl) (.inl rfl) hk ?_,?_⟩
        ·refine ⟨hpos,l,arr',e,_,by simp [Ctx.upd],h2,h3,put_heap (hs.lt hbn h1),hsa.trans h5,?_,HoldsRow.of_block (vs:=vs.take (i' + len) ++ xvs ++ vs.drop (i' + (xs.length + ys.length))) (put_heap (hs.lt hbn h1)) hvs' ?_,?_⟩
         ·have:(rxs.take (i' + len) ++ ys ++ rxs.drop (i' + (xs.length + ys.length))).length = rxs.length:=by simp; omega
          rw [this]; exact h6
         ·intro k hk'
          rw [hcells]
          have hk2:(rowCells (vs.take (i' + len) ++ xvs ++ vs.drop (i' + (xs.length + ys.length))))[k]? = some (rowCells (vs.take (i' + len) ++ xvs ++ vs.drop (i' + (xs.length + ys.length))))[k]:=by simp [hk']
          rw [← hk2,hrc,seg_get _ _ _ _ hsegfit]
          have hkl:k < (rowCells vs).length:=by
           rw [hrc] at hk'
           simp at hk'
           omega
          by_cases hc:(i' + len) * E.size≤k∧k < (i' + len) * E.size + (rowCells xvs).length
          ·rw [if_pos hc,if_pos (by omega)]
           congr 1
           omega
          ·rw [if_neg hc,if_neg (by omega),row_in_block h4 h7 k hkl]
           simp [hkl]
         ·exact VRL.ext hext _ _ (((h8.take _).append hxl).append (h8.drop _))
        ·simp only [VR]
         refine ⟨hb0,a',sc,rfl,by omega,by simp,fun l' hl'=>?_⟩
         simp only [Ctx.upd,if_true] at hl'
         injection hl' with hl'
         subst hl'
         exact ⟨Nat.le_of_eq h2.symm,fun _=>⟨ha',hsize⟩⟩
       ·cases hf
     | none=>
      simp only [hr] at hf
      split at hf
      ·rename_i hcond
       obtain ⟨hfr,hsolid,hg⟩:=hcond
       injection hf with hf; injection hf with e1 e2; subst e1 e2
       have hxlen':xs.length = len:=hel
       have hrl2:=rowCells_length xvs hxss
       have hvr:=rowCells_length vs h7.sizes
       have hxs':xs = rxs.drop i':=by rw [← hcont,List.take_of_length_le (by simp; omega)]
       by_cases hroom:xs.length + ys.length≤sc
       ·obtain ⟨arr',hsa,hcells,hrun⟩:=room hsolid hroom
        have hk:=put_keep C.w l.cb arr' e
        let l':Loc:={ l with g:=g + 1,d:=l.d + i' * E.size }
        have hl':l' = l ∨ (l.g < l'.g∧l.sz = l'.sz):=.inr ⟨by simp [l',h2],rfl⟩
        have hext:=upd_ext (C:=C) (l':=l') hbn h1 hl' (.inl rfl) hk
        have hvs':∀ y ∈ vs.drop i' ++ xvs,y.cells.size = E.size:=by
         intro y hy
         rcases List.mem_append.1 hy with hy | hy
         ·exact h7.sizes y (List.mem_of_mem_drop hy)
         ·exact hxss y hy
        have hrc:rowCells (vs.drop i' ++ xvs) = (rowCells vs).drop (i' * E.size) ++ rowCells xvs:=by
         rw [rowCells_append,rowCells_drop vs h7.sizes]
        have hdl:((rowCells vs).drop (i' * E.size)).length = len * E.size:=by
         rw [List.length_drop,hvr,← hvlen,← hfr,Nat.add_mul]; omega
        refine ⟨C.upd b l' _,_,hrun,hext,upd_SR hs hbn h1 hl' (.inl rfl) hk ?_,?_⟩
        ·refine ⟨hpos,l',arr',e,_,by simp [Ctx.upd],rfl,h3,put_heap (hs.lt hbn h1),hsa.trans h5,?_,HoldsRow.of_block (vs:=vs.drop i' ++ xvs) (put_heap (hs.lt hbn h1)) hvs' ?_,?_⟩
         ·show l.d + i' * E.size + (xs ++ ys).length * E.size≤l.size
          rw [Nat.add_assoc,← Nat.add_mul,List.length_append]
          refine Nat.le_trans ?_ hsize
          rw [h3]
          exact Nat.add_le_add_left (Nat.mul_le_mul_right _ (by omega)) _
         ·intro k hk'
          show arr'[l.d + i' * E.size + k]? = _
          rw [hcells]
          have hk2:(rowCells (vs.drop i' ++ xvs))[k]? = some (rowCells (vs.drop i' ++ xvs))[k]:=by simp [hk']
          rw [← hk2,hrc]
          have hk3:=hk'
          rw [hrc,List.length_append,hdl] at hk3
          by_cases hc:k < len * E.size
          ·rw [if_neg (by rw [Nat.add_mul]; omega),List.getElem?_append_left (by omega),List.getElem?_drop]
           have hkl:i' * E.size + k < (rowCells vs).length:=by rw [hvr,← hvlen,← hfr,Nat.add_mul]; omega
           have:=row_in_block h4 h7 (i' * E.size + k) hkl
           rw [Nat.add_assoc,this]
           simp [hkl]
          ·rw [if_pos (by rw [Nat.add_mul]; omega),List.getElem?_append_right (by omega),hdl]
           congr 1
           rw [Nat.add_mul]; omega
         ·rw [hxs']
          exact VRL.ext hext _ _ ((h8.drop _).append hxl)
        ·simp only [VR]
         refine ⟨hb0,a',sc,rfl,hroom,by simp,fun l2 hl2=>?_⟩
         simp only [Ctx.upd,if_true] at hl2
         injection hl2 with hl2
         subst hl2
         refine ⟨Nat.le_refl _,fun _=>⟨fun hc0=>?_,?_⟩⟩
         ·rw [ha' hc0]
          simp [l',h3]
         ·show l.d + i' * E.size + (0 + sc) * l.sz≤l.size
          rw [h3] at hsize ⊢
          rw [Nat.zero_add,Nat.add_assoc,← Nat.add_mul]
          exact hsize
       ·obtain ⟨arr',nc,hnc,hsa,hcells,hrun⟩:=grow hg (by omega)
        have hk:=(grown_keep C.w arr' E.e).weaken (some l.cb)
        let l':Loc:={ g:=g + 1,cb:=C.w.heap.size,d:=0,sz:=E.size,size:=arr'.size }
        have hl':l' = l ∨ (l.g < l'.g∧l.sz = l'.sz):=.inr ⟨by simp [l',h2],h3⟩
        have hext:=upd_ext (C:=C) (l':=l') hbn h1 hl' (.inr (Nat.le_refl _)) hk
        have hnb:(grownWorld C.w arr' E.e).heap[C.w.heap.size]? = some (.cells arr' E.e (0,0)):=by simp [grownWorld]
        have hnn:=Nat.mul_le_mul_right E.size hnc
        refine ⟨C.upd b l' _,_,hrun,hext,upd_SR hs hbn h1 hl' (.inr (Nat.le_refl _)) hk ?_,?_⟩
        ·refine ⟨hpos,l',arr',E.e,svs ++ xvs,by simp [Ctx.upd],rfl,rfl,hnb,rfl,?_,HoldsRow.of_block hnb hmem (fun k hk'=>by simpa [l'] using hcells k hk'),VRL.ext hext _ _ (hsl.append hxl)⟩
         show 0 + (xs ++ ys).length * E.size≤arr'.size
         rw [Nat.zero_add,List.length_append,hsa]
         exact hnn
        ·simp only [VR]
         refine ⟨hb0,_,nc,rfl,hnc,by simp,fun l2 hl2=>?_⟩
         simp only [Ctx.upd,if_true] at hl2
         injection hl2 with hl2
         subst hl2
         exact ⟨Nat.le_refl _,fun _=>⟨fun _=>by simp [l'],by simp [l',hsa]⟩⟩
      ·cases hf
    | _=>cases hf
  ·cases hf
 ·cases hf
end Go.AL
