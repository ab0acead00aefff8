/- Part 3 of 11 of the proof: the lemmas and contracts of ALSym3 .. LRng4. -/
import Derived.ChangeArms
import Derived.DataReads
import Derived.ChangeShapes
import Derived.Test.YtbjaehfboanglaaGreatDoorWAB
set_option linter.unusedVariables false
set_option linter.unusedSimpArgs false
namespace Go.AL
open Go
variable {P:Program}
def ApartV (v:AV):Prop:=∀ (C C2:Ctx) (y:Value),C2.w = C.w→(∀ blk,C.ok blk→C2.ok blk)→VR C v y→VR C2 v y
def ApartL (l:List AV):Prop:=∀ v ∈ l,ApartV v
theorem ApartL.vrl {l:List AV} (h:ApartL l) {C C2:Ctx} {ys:List Value} (hw:C2.w = C.w) (hok:∀ blk,C.ok blk→C2.ok blk) (hv:VRL C l ys):VRL C2 l ys:=by
 induction l generalizing ys with
 | nil=>simpa only [VRL] using hv
 | cons x xs ih=>
  simp only [VRL] at hv ⊢
  obtain ⟨z,zs,rfl,h1,h2⟩:=hv
  exact ⟨z,zs,rfl,h x (by simp) C C2 z hw hok h1,ih (fun v hv=>h v (by simp [hv])) h2⟩
theorem ApartV.int {k:IntKind} {n:Int}:ApartV (.int k n):=fun _ _ _ _ _ h=>by simpa only [VR] using h
theorem ApartV.bool {b:Bool}:ApartV (.bool b):=fun _ _ _ _ _ h=>by simpa only [VR] using h
theorem ApartV.str {s:ByteArray}:ApartV (.str s):=fun _ _ _ _ _ h=>by simpa only [VR] using h
theorem ApartV.nils:ApartV .nils:=fun _ _ _ _ _ h=>by simpa only [VR] using h
theorem ApartV.poison:ApartV .poison:=fun _ _ _ _ _ _=>VR.poison
theorem ApartV.agg {cs:List AV} (h:ApartL cs):ApartV (.agg cs):=fun C C2 y hw hok hv=>by
 simp only [VR] at hv ⊢
 obtain ⟨arr,rfl,hl⟩:=hv
 exact ⟨arr,rfl,h.vrl hw hok hl⟩
theorem ApartV.tup {cs:List AV} (h:ApartL cs):ApartV (.tup cs):=fun C C2 y hw hok hv=>by
 simp only [VR] at hv ⊢
 obtain ⟨arr,rfl,hl⟩:=hv
 exact ⟨arr,rfl,h.vrl hw hok hl⟩
theorem ApartV.vw {sz:Nat} {xs:List AV} (h:ApartL xs):ApartV (.vw sz xs):=fun C C2 y hw hok hv=>by
 simp only [VR] at hv ⊢
 rcases hv with hv | ⟨a,c,vs,rfl,hc,hs,hk,hh,hx⟩
 ·exact .inl hv
 ·exact .inr ⟨a,c,vs,rfl,hc,hs,fun hne=>hok _ (hk hne),by rw [hw]; exact hh,h.vrl hw hok hx⟩
theorem ApartV.rptr {x:AV} (h:ApartV x):ApartV (.rptr x):=fun C C2 y hw hok hv=>by
 simp only [VR] at hv ⊢
 obtain ⟨a,z,rfl,h1,h2,h3,h4,h5⟩:=hv
 exact ⟨a,z,rfl,h1,hok _ h2,h3,by rw [hw]; exact h4,h C C2 z hw hok h5⟩
theorem ApartL.nil:ApartL []:=fun _ h=>by cases h
theorem ApartL.cons {x:AV} {xs:List AV} (h:ApartV x) (hs:ApartL xs):ApartL (x :: xs):=fun v hv=>by
 rcases List.mem_cons.1 hv with rfl | hv
 ·exact h
 ·exact hs v hv
theorem ApartL.map {α:Type} {f:α→AV} {l:List α} (h:∀ x ∈ l,ApartV (f x)):ApartL (l.map f):=fun v hv=>by
 obtain ⟨x,hx,rfl⟩:=List.mem_map.1 hv
 exact h x hx
theorem ApartL.append {xs ys:List AV} (h:ApartL xs) (h':ApartL ys):ApartL (xs ++ ys):=fun v hv=>(List.mem_append.1 hv).elim (h v) (h' v)
def FrozenV (h:List ABlk) (v v':AV):Prop:=∀ (C C2:Ctx) (y:Value),SR C h→Outer C C2→VR C v y→VR C2 v' y
def FrozenL (h:List ABlk) (l l':List AV):Prop:=∀ (C C2:Ctx) (ys:List Value),SR C h→Outer C C2→VRL C l ys→VRL C2 l' ys
theorem FrozenV.apart {h:List ABlk} {v:AV} (hv:ApartV v):FrozenV h v v:=fun C C2 y _ ho hy=>hv C C2 y ho.w ho.ok hy
theorem FrozenL.apart {h:List ABlk} {l:List AV} (hl:ApartL l):FrozenL h l l:=fun _ _ _ _ ho hy=>hl.vrl ho.w ho.ok hy
theorem FrozenL.nil {h:List ABlk}:FrozenL h [] []:=fun _ _ _ _ _ hy=>by simpa only [VRL] using hy
theorem FrozenL.cons {h:List ABlk} {v v':AV} {l l':List AV} (hv:FrozenV h v v') (hl:FrozenL h l l'):FrozenL h (v :: l) (v' :: l'):=fun C C2 ys hs ho hy=>by
 simp only [VRL] at hy ⊢
 obtain ⟨z,zs,rfl,h1,h2⟩:=hy
 exact ⟨z,zs,rfl,hv C C2 z hs ho h1,hl C C2 zs hs ho h2⟩
theorem FrozenV.agg {h:List ABlk} {cs cs':List AV} (hl:FrozenL h cs cs'):FrozenV h (.agg cs) (.agg cs'):=fun C C2 y hs ho hy=>by
 simp only [VR] at hy ⊢
 obtain ⟨arr,rfl,h1⟩:=hy
 exact ⟨arr,rfl,hl C C2 _ hs ho h1⟩
theorem FrozenV.tup {h:List ABlk} {cs cs':List AV} (hl:FrozenL h cs cs'):FrozenV h (.tup cs) (.tup cs'):=fun C C2 y hs ho hy=>by
 simp only [VR] at hy ⊢
 obtain ⟨arr,rfl,h1⟩:=hy
 exact ⟨arr,rfl,hl C C2 _ hs ho h1⟩
theorem FrozenV.nils {h:List ABlk} {sz:Nat}:FrozenV h .nils (.vw sz []):=fun C C2 y _ _ hy=>by
 simp only [VR] at hy ⊢
 exact .inl ⟨hy,trivial⟩
theorem FrozenV.sl {h:List ABlk} {sz:Nat} {xs xs':List AV} {c:Option Nat} (hl:FrozenL h xs xs'):FrozenV h (.sl sz xs c) (.vw sz xs'):=fun C C2 y hs ho hy=>by
 simp only [VR] at hy ⊢
 obtain ⟨a,cc,vs,rfl,h1,_,h3,h4,h5,h6⟩:=hy
 have h6':=hl C C2 vs hs ho h6
 have e1:=h6.length
 have e2:=h6'.length
 refine .inr ⟨a,cc,vs,by rw [e2,e1],by omega,h3,fun hne=>ho.ok _ (h4 ?_),by rw [ho.w]; exact h5,h6'⟩
 rintro rfl
 apply hne
 apply List.eq_nil_of_length_eq_zero
 rw [e2,← e1]; rfl
theorem FrozenV.hsl {h:List ABlk} {b g len sz:Nat} {cap:Option Nat} {xs xs':List AV} (hb:h[b]? = some (.row g sz xs)) (hlen:len = xs.length) (hpos:xs ≠ []) (hl:FrozenL h xs xs'):FrozenV h (.hsl b g 0 len cap) (.vw sz xs'):=fun C C2 y hs ho hy=>by
 subst hlen
 simp only [VR] at hy ⊢
 obtain ⟨hbn,a,c,rfl,hlc,_,ha⟩:=hy
 obtain ⟨_,l,arr,e,vs,r1,r2,r3,r4,r5,r6,r7,r8⟩:=hs.blk b _ hb
 have hn:0 < xs.length:=List.length_pos_iff.2 hpos
 have ha':=((ha l r1).2 r2.symm).1 (by omega)
 have h6':=hl C C2 vs hs ho r8
 have e1:=r8.length
 have e2:=h6'.length
 refine .inr ⟨a,c,vs,by rw [e2,e1],by omega,fun _=>by rw [ha'],fun _=>by rw [ha']; exact ho.owned b l hbn.1 r1,?_,h6'⟩
 rw [ho.w,ha']
 simpa [r3] using r7
theorem ACall.apart {f:FuncId} {args:List AV} {h h':List ABlk} {v v':AV} (ha:ApartL args) (hc:ACall P f args [] (.ret v) h') (hv:FrozenV h' v v'):ACall P f args h (.ret v') h:=by
 intro n C cargs hs hargs
 have hargs':VRL C.apart args cargs.toList:=ha.vrl (C:=C) (C2:=C.apart) rfl (apart_outer hs) hargs
 refine (hc n C.apart cargs (apart_SR hs) hargs').mono ?_
 rintro e' w' ⟨C1,rfl,hext,hs1,y,rfl,hy⟩
 have hno:∀ blk,¬ C.apart.owned blk:=by rintro blk ⟨b,l,hb,_⟩; simp [Ctx.apart] at hb
 have hk:Keep C.w C1.w none:=⟨hext.size,fun blk hb _=>hext.same blk hb (hno blk),hext.tape,hext.os,hext.output⟩
 have hforb:∀ blk,¬ C1.forb blk→¬ C.owned blk∧¬ C.forb blk:=by
  intro blk hf
  rw [hext.forb] at hf
  exact ⟨fun h=>hf (.inl h),fun h=>hf (.inr h)⟩
 have ho:Outer C1 (C.grow C1.w):=by
  refine ⟨rfl,fun blk hb=>?_,fun b l hb hl=>?_⟩
  ·obtain ⟨h1,h2,h3⟩:=hb
   obtain ⟨g1,g2⟩:=hforb blk h2
   exact ⟨h1,g2,g1⟩
  ·have hown:C1.owned l.cb:=⟨b,l,hb,hl,rfl⟩
   have hnf:¬ C1.forb l.cb:=fun hf=>(hs1.forb _ hf).2 hown
   obtain ⟨g1,g2⟩:=hforb _ hnf
   exact ⟨hs1.lt hb hl,g2,g1⟩
 exact ⟨C.grow C1.w,rfl,grow_ext hk,grow_SR hs hk,y,rfl,hv C1 _ y hs1 ho hy⟩
end Go.AL
namespace Go.AL
open Go
structure Bk (H:Type) where
 B:DataW H→Nat
 one:∀ d,1≤B d
 str:∀ bs,bs.length + 1≤B (.lit (.string bs))
 sl:∀ es sp,(es.map B).sum + 1≤B (.slice es sp)
 agg:∀ ps,(ps.map B).sum≤B (.agg ps)
mutual
def avsz:AV→Nat
 | .str s=>s.size + 1
 | .vw _ xs=>avszL xs + 1
 | .agg xs=>avszL xs
 | .poison=>0
 | .bool _=>1
 | .int _ _=>1
 | .nilp=>1
 | .ptr _ _ _ _=>1
 | .rptr _=>1
 | .nils=>1
 | .sl _ _ _=>1
 | .hsl _ _ _ _ _=>1
 | .nilm=>1
 | .map _=>1
 | .func _ _ _=>1
 | .yield _=>1
 | .nilf=>1
 | .iface _ _=>1
 | .nili=>1
 | .tup _=>1
def avszL:List AV→Nat
 | []=>0
 | x :: xs=>avsz x + avszL xs
end
theorem avszL_append:∀ (a b:List AV),avszL (a ++ b) = avszL a + avszL b
 | [],b=>by simp only [List.nil_append,avszL,Nat.zero_add]
 | x :: a,b=>by simp only [List.cons_append,avszL,avszL_append a b]; omega
section
variable {P:Program}
def pl1 (P:Program) (t:TypeId):Bool:=
 match P.underlying t with
 | some .bool=>true
 | some (.int _)=>true
 | some .string=>true
 | some (.slice _)=>true
 | some (.struct _)=>true
 | _=>false
def contig (P:Program):List _root_.Go.Field→Nat→Option Nat
 | [],o=>some o
 | f :: fs,o=>if f.offset = o then contig P fs (o + P.cellsOf f.type) else none
def plainB (P:Program) (t:TypeId):Bool:=
 match P.underlying t with
 | some .bool=>true
 | some (.int _)=>true
 | some .string=>true
 | some (.slice e)=>Nat.blt 0 (P.cellsOf e) && pl1 P e
 | some (.struct fs)=>contig P fs.toList 0 == some (P.cellsOf t)
 | _=>false
def wrapT (P:Program) (e:TypeId) (ys:List AV):AV:=
 match P.underlying e with
 | some (.struct _)=>.agg ys
 | _=>ys.headD .poison
inductive WT (P:Program):TypeId→List AV→Prop
 | bool {t:TypeId} {b:Bool} (h:P.underlying t = some .bool):WT P t [.bool b]
 | int {t:TypeId} {k:IntKind} {n:Int} (h:P.underlying t = some (.int k)) (hw:(Lit.int k n).wf = true):WT P t [.int k n]
 | str {t:TypeId} {s:ByteArray} (h:P.underlying t = some .string):WT P t [.str s]
 | slice {t e:TypeId} {xs:List (List AV)} (h:P.underlying t = some (.slice e)) (hx:∀ ys ∈ xs,WT P e ys):WT P t [.vw (P.cellsOf e) (xs.map (wrapT P e))]
 | struct {t:TypeId} {fs:Array _root_.Go.Field} {parts:List (List AV)} (h:P.underlying t = some (.struct fs)) (hl:parts.length = fs.size) (hp:∀ (i:Nat) f p,fs[i]? = some f→parts[i]? = some p→WT P f.type p):WT P t parts.flatten
 | other {t:TypeId} {avs:List AV} (h:plainB P t = false):WT P t avs
def C0 (W:World):Ctx:=⟨fun _=>none,0,fun _=>False,fun _=>False,W⟩
theorem C0_SR (W:World):SR (C0 W) [] where
 len:=rfl
 blk b x h:=by cases h
 inj b b' l l' h:=by cases h
 forb blk h:=h.elim
 res b:=⟨fun h=>h.elim,fun h=>by cases h⟩
theorem C0_ok {W:World} {blk:Nat} (h:blk < W.heap.size):(C0 W).ok blk:=⟨h,fun h=>h,fun ⟨b,l,hb,_⟩=>by cases hb⟩
theorem poisons {C:Ctx}:∀ cs:List Value,VRL C (cs.map fun _=>AV.poison) cs
 | []=>by simp only [List.map_nil,VRL]
 | c :: cs=>by
  simp only [List.map_cons,VRL]
  exact ⟨c,cs,rfl,VR.poison,poisons cs⟩
theorem poisons_sz:∀ cs:List Value,avszL (cs.map fun _=>AV.poison) = 0
 | []=>by simp only [List.map_nil,avszL]
 | c :: cs=>by simp only [List.map_cons,avszL,avsz,poisons_sz cs]
theorem VRL.one {C:Ctx} {x:AV} {v:Value} (h:VR C x v):VRL C [x] [v]:=by
 simp only [VRL]
 exact ⟨v,[],rfl,h,rfl⟩
theorem VRL.cons' {C:Ctx} {x:AV} {v:Value} {xs:List AV} {vs:List Value} (h:VR C x v) (hs:VRL C xs vs):VRL C (x :: xs) (v :: vs):=by
 simp only [VRL]
 exact ⟨v,vs,rfl,h,hs⟩
theorem add_block (a:Addr) (n:Nat):(a.add n).block = a.block:=by unfold Addr.add; split <;> rfl
theorem add_off (a:Addr) (n:Nat):(a.add n).off = a.off + n:=by unfold Addr.add; split <;> simp_all
theorem cell_spot {W:World} {a:Addr} {v:Value} (h:W.cell? a = some v):a.spot = none∧a.block < W.heap.size:=by
 unfold World.cell? at h
 split at h
 ·rename_i c _ _ hb
  split at h
  ·cases h
  ·rename_i hs
   refine ⟨by simpa using hs,?_⟩
   exact (Array.getElem?_eq_some_iff.1 hb).1
 ·cases h
theorem addr_ext {a b:Addr} (h1:a.block = b.block) (h2:a.off = b.off) (h3:a.spot = b.spot):a = b:=by cases a; cases b; simp_all
variable {H:Type} {enc:TypeId×Value→H} {W:World} {bk:Bk H}
def Reads (bk:Bk H) (enc:TypeId×Value→H) (P:Program) (W:World) (n:Nat):Prop:=
 ∀ (t:TypeId) (cs:List Value) (x:DataW H×List MemPlace),DataW.trod enc P W 0 (fun _=>true) true n t cs = some x→∃ avs,VRL (C0 W) avs cs∧WT P t avs∧avszL avs≤bk.B x.1
theorem struct_aux {n:Nat} (ih:Reads bk enc P W n) (cs:List Value):∀ (fs:List _root_.Go.Field) (o:Nat) (xs:List (DataW H×List MemPlace)),contig P fs o = some cs.length→xs.length = fs.length→o≤cs.length →
  (∀ (i:Nat) f,fs[i]? = some f→DataW.trod enc P W 0 (fun _=>true) true n f.type ((cs.drop f.offset).take (P.cellsOf f.type)) = xs[i]?) →
  ∃ parts:List (List AV),parts.length = fs.length∧VRL (C0 W) parts.flatten (cs.drop o)∧(∀ (i:Nat) f p,fs[i]? = some f→parts[i]? = some p→WT P f.type p)∧avszL parts.flatten≤((xs.map (·.1)).map bk.B).sum
 | [],o,xs,hc,hl,ho,hx=>by
  simp only [contig,Option.some.injEq] at hc
  subst hc
  refine ⟨[],rfl,?_,fun i f p h=>by simp at h,by simp only [List.flatten_nil,avszL]; omega⟩
  rw [List.drop_length]
  simp only [List.flatten_nil,VRL]
 | f :: fs,o,[],hc,hl,ho,hx=>by simp at hl
 | f :: fs,o,x :: xs,hc,hl,ho,hx=>by
  simp only [contig] at hc
  split at hc
  ·rename_i hfo
   subst hfo
   have h0:=hx 0 f rfl
   simp only [List.getElem?_cons_zero] at h0
   obtain ⟨avs,q1,q2,q3⟩:=ih _ _ _ h0
   by_cases hle:f.offset + P.cellsOf f.type≤cs.length
   ·obtain ⟨parts,p1,p2,p3,p4⟩:=struct_aux ih cs fs (f.offset + P.cellsOf f.type) xs hc (by simpa using hl) hle (fun i g hg=>by simpa using hx (i + 1) g (by simpa using hg))
    refine ⟨avs :: parts,by simp [p1],?_,?_,?_⟩
    ·rw [List.flatten_cons,← List.take_append_drop (P.cellsOf f.type) (cs.drop f.offset),List.drop_drop]
     exact q1.append p2
    ·intro i g p hg hp
     cases i with
     | zero=>simp at hg hp; subst hg hp; exact q2
     | succ i=>exact p3 i g p (by simpa using hg) (by simpa using hp)
    ·rw [List.flatten_cons,avszL_append]
     simp only [List.map_cons,List.sum_cons]
     omega
   ·exfalso
    have key:∀ (fs:List _root_.Go.Field) (o r:Nat),contig P fs o = some r→o≤r:=by
     intro fs
     induction fs with
     | nil=>intro o r h; simp only [contig,Option.some.injEq] at h; omega
     | cons g fs ihf=>
      intro o r h
      simp only [contig] at h
      split at h
      ·have:=ihf _ _ h; omega
      ·cases h
    have:=key _ _ _ hc
    omega
  ·cases hc
theorem wrap_one {e:TypeId} (he:∀ fs,P.underlying e ≠ some (.struct fs)) (y:AV):wrapT P e [y] = y:=by
 unfold wrapT
 split
 ·rename_i fs h; exact (he fs h).elim
 ·rfl
theorem elem_aux {n:Nat} (ih:Reads bk enc P W n) {e:TypeId} (he:pl1 P e = true) {a:Addr} {o:Nat} {cs:List Value} {y:DataW H×List MemPlace}
  (hc:W.cells? 0 (a.add (o * P.cellsOf e)) (P.cellsOf e) = some cs) (ht:DataW.trod enc P W 0 (fun _=>true) true n e cs = some y) :
  ∃ ys v,WT P e ys∧VR (C0 W) (wrapT P e ys) v∧v.cells.size = P.cellsOf e∧Holds W ⟨a.block,a.off + o * P.cellsOf e,none⟩ v∧avsz (wrapT P e ys)≤bk.B y.1:=by
 obtain ⟨_,hlen,hcell⟩:=World.cells?_some hc
 obtain ⟨avs,q1,q2,q3⟩:=ih _ _ _ ht
 have hold:∀ v:Value,v.cells.toList = cs→v.cells.size = P.cellsOf e∧Holds W ⟨a.block,a.off + o * P.cellsOf e,none⟩ v:=by
  intro v hv
  have hsz:v.cells.size = P.cellsOf e:=by rw [← hlen,← hv]; simp
  refine ⟨hsz,fun j hj=>?_⟩
  have h1:=hcell j (by omega)
  have h2:cs[j]? = some v.cells[j]:=by rw [← hv]; simp [hj]
  rw [h2] at h1
  have h3:=cell_spot h1
  have:((a.add (o * P.cellsOf e)).add j) = ⟨a.block,a.off + o * P.cellsOf e + j,none⟩:=addr_ext (by rw [add_block,add_block]) (by rw [add_off,add_off]) h3.1
  rw [this] at h1
  exact h1
 have one:(∀ fs,P.underlying e ≠ some (.struct fs))→∀ (y0:AV) (v:Value),avs = [y0]→cs = [v]→v.cells = #[v]→∃ ys v,WT P e ys∧VR (C0 W) (wrapT P e ys) v∧v.cells.size = P.cellsOf e∧Holds W ⟨a.block,a.off + o * P.cellsOf e,none⟩ v∧avsz (wrapT P e ys)≤bk.B y.1:=by
  intro hne y0 v e1 e2 e3
  subst e1 e2
  obtain ⟨h1,h2⟩:=hold v (by rw [e3])
  simp only [VRL] at q1
  obtain ⟨v',vs,hvv,hvr,hvs⟩:=q1
  cases hvv
  refine ⟨[y0],v,q2,by rw [wrap_one hne]; exact hvr,h1,h2,?_⟩
  rw [wrap_one hne]
  simp only [avszL] at q3
  omega
 have len1:∀ v:Value,cs = [v]→∃ y0,avs = [y0]:=by
  intro v hv
  have:=q1.length
  rw [hv] at this
  match avs,this with
  | [y0],_=>exact ⟨y0,rfl⟩
 unfold pl1 at he
 split at he
 ·rename_i hu
  obtain ⟨b,hb,_⟩:=DataW.trod_bool hu ht
  obtain ⟨y0,hy0⟩:=len1 _ hb
  exact one (fun fs h=>by rw [hu] at h; cases h) y0 _ hy0 hb rfl
 ·rename_i k hu
  obtain ⟨b,hb,_⟩:=DataW.trod_int hu ht
  obtain ⟨y0,hy0⟩:=len1 _ hb
  exact one (fun fs h=>by rw [hu] at h; cases h) y0 _ hy0 hb rfl
 ·rename_i hu
  obtain ⟨b,hb,_⟩:=DataW.trod_string hu ht
  obtain ⟨y0,hy0⟩:=len1 _ hb
  exact one (fun fs h=>by rw [hu] at h; cases h) y0 _ hy0 hb rfl
 ·rename_i e' hu
  rcases DataW.trod_slice hu ht with ⟨hb,_⟩ | ⟨a',len,cap,_,_,_,_,hb,_⟩
  ·obtain ⟨y0,hy0⟩:=len1 _ hb
   exact one (fun fs h=>by rw [hu] at h; cases h) y0 _ hy0 hb rfl
  ·obtain ⟨y0,hy0⟩:=len1 _ hb
   exact one (fun fs h=>by rw [hu] at h; cases h) y0 _ hy0 hb rfl
 ·rename_i fs hu
  obtain ⟨h1,h2⟩:=hold (.agg cs.toArray) (by simp [Value.cells])
  have hw:wrapT P e avs = .agg avs:=by unfold wrapT; rw [hu]
  refine ⟨avs,.agg cs.toArray,q2,?_,h1,h2,?_⟩
  ·rw [hw]
   simp only [VR]
   exact ⟨cs.toArray,rfl,by simpa using q1⟩
  ·rw [hw]; simp only [avsz]; exact q3
 ·cases he
theorem slice_aux {n:Nat} (ih:Reads bk enc P W n) {e:TypeId} (he:pl1 P e = true) {a:Addr}:∀ (elems:List (DataW H×List MemPlace)) (o:Nat),
  (∀ i,i < elems.length→(W.cells? 0 (a.add ((o + i) * P.cellsOf e)) (P.cellsOf e)).bind (DataW.trod enc P W 0 (fun _=>true) true n e) = elems[i]?) →
  ∃ (xs:List (List AV)) (vs:List Value),vs.length = elems.length∧(∀ ys ∈ xs,WT P e ys)∧VRL (C0 W) (xs.map (wrapT P e)) vs∧(∀ i (h:i < vs.length),vs[i].cells.size = P.cellsOf e∧Holds W ⟨a.block,a.off + (o + i) * P.cellsOf e,none⟩ vs[i]) ∧
   avszL (xs.map (wrapT P e))≤((elems.map (·.1)).map bk.B).sum
 | [],o,_=>⟨[],[],rfl,fun ys h=>by simp at h,by simp only [List.map_nil,VRL],fun i h=>by simp at h,by simp only [List.map_nil,avszL]; omega⟩
 | y :: elems,o,hx=>by
  have h0:=hx 0 (by simp)
  simp only [Nat.add_zero,List.getElem?_cons_zero,Option.bind_eq_some_iff] at h0
  obtain ⟨cs,hc,ht⟩:=h0
  obtain ⟨ys,v,q1,q2,q3,q4,q5⟩:=elem_aux ih he hc ht
  obtain ⟨xs,vs,p1,p2,p3,p4,p5⟩:=slice_aux ih he elems (o + 1) (fun i hi=>by
   have:=hx (i + 1) (by simp; omega)
   rw [show o + (i + 1) = o + 1 + i by omega] at this
   simpa using this)
  refine ⟨ys :: xs,v :: vs,by simp [p1],fun z hz=>?_,?_,?_,?_⟩
  ·rcases List.mem_cons.1 hz with rfl | hz
   ·exact q1
   ·exact p2 z hz
  ·rw [List.map_cons]; exact VRL.cons' q2 p3
  ·intro i hi
   cases i with
   | zero=>simpa using ⟨q3,q4⟩
   | succ i=>
    have:=p4 i (by simpa using hi)
    rw [show o + 1 + i = o + (i + 1) by omega] at this
    simpa using this
  ·simp only [List.map_cons,avszL,List.sum_cons]
   omega
theorem reads_all (bk:Bk H) (enc:TypeId×Value→H) (P:Program) (W:World):∀ n,Reads bk enc P W n
 | 0=>fun t cs x h=>by simp [DataW.trod] at h
 | n + 1=>fun t cs x h=>by
  cases hp:plainB P t with
  | false=>exact ⟨cs.map fun _=>.poison,poisons cs,.other hp,by rw [poisons_sz]; omega⟩
  | true=>
   unfold plainB at hp
   split at hp
   ·rename_i hu
    obtain ⟨b,rfl,rfl⟩:=DataW.trod_bool hu h
    refine ⟨[.bool b],VRL.one (by simp only [VR]),.bool hu,?_⟩
    simp only [avszL,avsz]
    exact bk.one _
   ·rename_i k hu
    obtain ⟨m,rfl,rfl,hw⟩:=DataW.trod_int hu h
    refine ⟨[.int k m],VRL.one (by simp only [VR]),.int hu hw,?_⟩
    simp only [avszL,avsz]
    exact bk.one _
   ·rename_i hu
    obtain ⟨s,rfl,rfl,hs⟩:=DataW.trod_string hu h
    refine ⟨[.str s],VRL.one (by simp only [VR]),.str hu,?_⟩
    simp only [avszL,avsz]
    have:=bk.str s.data.toList
    have e:s.data.toList.length = s.size:=Array.length_toList
    rw [e] at this
    exact this
   ·rename_i e hu
    simp only [Bool.and_eq_true] at hp
    obtain ⟨hz,he⟩:=hp
    have hz:0 < P.cellsOf e:=by simpa using hz
    rcases DataW.trod_slice hu h with ⟨rfl,rfl⟩ | ⟨a,len,cap,elems,rest,m,hm,rfl,rfl,hb,hlc,hcm,hlen,hel,hsp,_⟩
    ·refine ⟨[.vw (P.cellsOf e) ([].map (wrapT P e))],VRL.one ?_,.slice (xs:=[]) hu (fun ys h=>by simp at h),?_⟩
     ·simp only [VR]
      exact .inl ⟨trivial,by simp⟩
     ·simp only [List.map_nil,avszL,avsz]
      exact bk.one _
    ·obtain rfl:n = m:=by omega
     have ih:=reads_all bk enc P W n
     obtain ⟨xs,vs,p1,p2,p3,p4,p5⟩:=slice_aux ih he elems 0 (fun i hi=>by rw [Nat.zero_add]; exact hel i (by omega))
     refine ⟨[.vw (P.cellsOf e) (xs.map (wrapT P e))],VRL.one ?_,.slice hu p2,?_⟩
     ·simp only [VR]
      have hl:=p3.length
      have hok:∀ j (q:Option (DataW H×List MemPlace)),q.isSome = true→(W.cells? 0 (a.add (j * P.cellsOf e)) (P.cellsOf e)).bind (DataW.trod enc P W 0 (fun _=>true) true n e) = q→(j = 0→a.spot = none)∧a.block < W.heap.size:=by
       intro j q hq hjq
       obtain ⟨y,rfl⟩:=Option.isSome_iff_exists.1 hq
       obtain ⟨cs,hc,_⟩:=Option.bind_eq_some_iff.1 hjq
       obtain ⟨_,hcl,hcell⟩:=World.cells?_some hc
       have h1:=hcell 0 hz
       have h2:cs[0]? = some cs[0]:=List.getElem?_eq_getElem (by omega)
       rw [h2] at h1
       have h3:=cell_spot h1
       rw [add_block,add_block] at h3
       refine ⟨fun hj=>?_,h3.2⟩
       subst hj
       have e0:(a.add (0 * P.cellsOf e)).add 0 = a:=by simp [Addr.add]
       rw [e0] at h3
       exact h3.1
      have hlx:(xs.map (wrapT P e)).length = len:=by omega
      refine .inr ⟨a,cap,vs,by rw [hlx],by omega,fun hc0=>?_,fun hne=>?_,fun i hi=>?_,p3⟩
      ·by_cases hl0:0 < len
       ·exact (hok 0 elems[0]? (by rw [List.getElem?_eq_getElem (show 0 < elems.length by omega)]; rfl) (hel 0 hl0)).1 rfl
       ·obtain ⟨r1,r2⟩:=hsp rfl
        obtain rfl:len = 0:=by omega
        exact (hok 0 rest[0]? (by rw [List.getElem?_eq_getElem (show 0 < rest.length by omega)]; rfl) (r2 0 (by omega))).1 rfl
      ·have hl0:0 < len:=by
        rw [← hlx]; exact List.length_pos_iff.2 hne
       exact C0_ok (hok 0 elems[0]? (by rw [List.getElem?_eq_getElem (show 0 < elems.length by omega)]; rfl) (hel 0 hl0)).2
      ·have:=p4 i hi
       rw [Nat.zero_add] at this
       exact this
     ·have:=bk.sl (elems.map (·.1)) (rest.map (·.1))
      simp only [avszL,avsz]
      show _≤bk.B (.slice (elems.map (·.1)) (rest.map (·.1)))
      omega
   ·rename_i fs hu
    have hp:contig P fs.toList 0 = some (P.cellsOf t):=by simpa using hp
    obtain ⟨xs,m,hm,rfl,hcl,hxl,hf⟩:=DataW.trod_struct hu h
    obtain rfl:n = m:=by omega
    have ih:=reads_all bk enc P W n
    obtain ⟨parts,p1,p2,p3,p4⟩:=struct_aux ih cs fs.toList 0 xs (by rw [hp,hcl]) (by simpa using hxl) (by omega) (fun i f hi=>hf i f (by simpa using hi))
    refine ⟨parts.flatten,by simpa using p2,.struct hu (by simpa using p1) (fun i f p hi hpp=>p3 i f p (by simpa using hi) hpp),?_⟩
    have:=bk.agg (xs.map (·.1))
    show _≤bk.B (.agg (xs.map (·.1)))
    omega
   ·cases hp
end
end Go.AL
namespace Go.AL
open Go
inductive Out (S X R:Type) where
 | next (s:S)
 | exit (x:X)
 | ret (r:R)
def runs {S X R:Type} (body:S→Option (Out S X R)):Nat→S→Option (X ⊕ R)
 | 0,_=>none
 | n + 1,s=>match body s with
  | none=>none
  | some (.next s')=>runs body n s'
  | some (.exit x)=>some (.inl x)
  | some (.ret r)=>some (.inr r)
def idx {α:Type} (l:List α) (i:Int):Option α:=bif decide (0≤i) then l[i.toNat]? else none
def w64 (n:Int):Int:=IntKind.i64.wrap n
def quoO (a b:Int):Option Int:=bif b == 0 then none else some (w64 (a.tdiv b))
def remO (a b:Int):Option Int:=bif b == 0 then none else some (a.tmod b)
def app {α:Type} (xs ys:List α):Option (List α):=bif decide (xs.length + ys.length < 1073741824) then some (xs ++ ys) else none
theorem bindE {α β:Type} {o:Option α} {k:α→Option β} {r:β} (h:o.bind k = some r):∃ y,o = some y∧k y = some r:=Option.bind_eq_some_iff.1 h
theorem bifE {α:Type} {t:Bool} {a b:α} {r:α} {p:Prop} (h:(bif t then a else b) = r) (h1:t = true→a = r→p) (h2:t = false→b = r→p):p:=by
 cases t
 ·exact h2 rfl h
 ·exact h1 rfl h
theorem idxE {α:Type} {l:List α} {i:Int} {y:α} (h:idx l i = some y):0≤i∧l[i.toNat]? = some y:=by
 unfold idx at h
 by_cases h0:0≤i
 ·simpa [h0] using h
 ·simp [h0] at h
variable {P:Program} {rd:Option Nat} {N:Nat} {al al' al1:List (Nat×AV)} {df:List ADef} {h h1:List ABlk} {Q:AX→List (Nat×AV)→List ADef→List ABlk→Prop}
mutual
def belowV (n:Nat):AV→Prop
 | .ptr b _ _ _=>b < n
 | .hsl b _ _ _ _=>b < n
 | .map b=>b < n
 | .yield b=>b < n
 | .rptr v=>belowV n v
 | .sl _ xs _=>belowL n xs
 | .vw _ xs=>belowL n xs
 | .agg xs=>belowL n xs
 | .tup xs=>belowL n xs
 | .func _ f c=>belowL n f∧belowL n c
 | .iface _ v=>belowV n v
 | .bool _=>True
 | .int _ _=>True
 | .str _=>True
 | .nilp=>True
 | .nils=>True
 | .nilm=>True
 | .nilf=>True
 | .nili=>True
 | .poison=>True
def belowL (n:Nat):List AV→Prop
 | []=>True
 | x :: xs=>belowV n x∧belowL n xs
end
def belowB (n:Nat):ABlk→Prop
 | .row _ _ xs=>belowL n xs
 | .resv=>True
 | .dead=>True
 | .defr=>True
 | _=>False
theorem belowL_iff {n:Nat} {l:List AV}:belowL n l↔∀ v ∈ l,belowV n v:=by
 induction l with
 | nil=>simp [belowL]
 | cons x xs ih=>simp [belowL,ih]
theorem belowL_map {n:Nat} {α:Type} {f:α→AV} {l:List α} (hf:∀ x,belowV n (f x)):belowL n (l.map f):=belowL_iff.2 fun v hv=>by
 obtain ⟨x,_,rfl⟩:=List.mem_map.1 hv
 exact hf x
def Ctx.cut (C:Ctx) (n:Nat):Ctx:={ C with n:=n,res:=fun b=>C.res b∧b < n }
theorem cut_owned {C:Ctx} {n blk:Nat} (hn:n≤C.n) (h:(C.cut n).owned blk):C.owned blk:=by
 obtain ⟨b,l,hb,hl,hc⟩:=h
 exact ⟨b,l,Nat.lt_of_lt_of_le hb hn,hl,hc⟩
theorem cut_ok {C:Ctx} {n blk:Nat} (hn:n≤C.n) (h:C.ok blk):(C.cut n).ok blk:=⟨h.1,h.2.1,fun ho=>h.2.2 (cut_owned hn ho)⟩
theorem cut_born {C:Ctx} {n b:Nat} (hb:b < n) (h:C.born b):(C.cut n).born b:=⟨hb,fun hr=>h.2 hr.1⟩
mutual
theorem VR.cut {C:Ctx} {n:Nat} (hn:n≤C.n):∀ (x:AV) (v:Value),belowV n x→VR C x v→VR (C.cut n) x v
 | .bool _,_,_,hv=>by simpa only [VR] using hv
 | .int _ _,_,_,hv=>by simpa only [VR] using hv
 | .str _,_,_,hv=>by simpa only [VR] using hv
 | .nilp,_,_,hv=>by simpa only [VR] using hv
 | .nils,_,_,hv=>by simpa only [VR] using hv
 | .nilm,_,_,hv=>by simpa only [VR] using hv
 | .nilf,_,_,hv=>by simpa only [VR] using hv
 | .nili,_,_,hv=>by simpa only [VR] using hv
 | .poison,_,_,_=>by simp only [VR]
 | .ptr b g i o,v,hb,hv=>by
  simp only [VR] at hv ⊢
  simp only [belowV] at hb
  obtain ⟨h1,a,rfl,h2⟩:=hv
  exact ⟨cut_born hb h1,a,rfl,h2⟩
 | .hsl b g i len cap,v,hb,hv=>by
  simp only [VR] at hv ⊢
  simp only [belowV] at hb
  obtain ⟨h1,a,c,rfl,h2,h3,h4⟩:=hv
  exact ⟨cut_born hb h1,a,c,rfl,h2,h3,h4⟩
 | .map b,v,hb,hv=>by
  simp only [VR] at hv ⊢
  simp only [belowV] at hb
  obtain ⟨h1,a,rfl,h2⟩:=hv
  exact ⟨cut_born hb h1,a,rfl,h2⟩
 | .yield b,v,hb,hv=>by
  simp only [VR] at hv ⊢
  simp only [belowV] at hb
  obtain ⟨h1,a,rfl,h2⟩:=hv
  exact ⟨cut_born hb h1,a,rfl,h2⟩
 | .rptr x,v,hb,hv=>by
  simp only [VR] at hv ⊢
  simp only [belowV] at hb
  obtain ⟨a,y,rfl,hs,hok,hp,hh,hx⟩:=hv
  exact ⟨a,y,rfl,hs,cut_ok hn hok,hp,hh,VR.cut hn x y hb hx⟩
 | .sl sz xs cap,v,hb,hv=>by
  simp only [VR] at hv ⊢
  simp only [belowV] at hb
  obtain ⟨a,c,vs,rfl,hc,hcap,hs,hok,hh,hx⟩:=hv
  exact ⟨a,c,vs,rfl,hc,hcap,hs,fun hne=>cut_ok hn (hok hne),hh,VRL.cut hn xs vs hb hx⟩
 | .vw sz xs,v,hb,hv=>by
  simp only [VR] at hv ⊢
  simp only [belowV] at hb
  rcases hv with hv | ⟨a,c,vs,rfl,hc,hs,hok,hh,hx⟩
  ·exact .inl hv
  ·exact .inr ⟨a,c,vs,rfl,hc,hs,fun hne=>cut_ok hn (hok hne),hh,VRL.cut hn xs vs hb hx⟩
 | .agg xs,v,hb,hv=>by
  simp only [VR] at hv ⊢
  simp only [belowV] at hb
  obtain ⟨arr,rfl,hx⟩:=hv
  exact ⟨arr,rfl,VRL.cut hn xs _ hb hx⟩
 | .tup xs,v,hb,hv=>by
  simp only [VR] at hv ⊢
  simp only [belowV] at hb
  obtain ⟨arr,rfl,hx⟩:=hv
  exact ⟨arr,rfl,VRL.cut hn xs _ hb hx⟩
 | .func fn f c,v,hb,hv=>by
  simp only [VR] at hv ⊢
  simp only [belowV] at hb
  obtain ⟨f',c',rfl,h1,h2⟩:=hv
  exact ⟨f',c',rfl,VRL.cut hn f _ hb.1 h1,VRL.cut hn c _ hb.2 h2⟩
 | .iface t x,v,hb,hv=>by
  simp only [VR] at hv ⊢
  simp only [belowV] at hb
  obtain ⟨y,rfl,hx⟩:=hv
  exact ⟨y,rfl,VR.cut hn x y hb hx⟩
theorem VRL.cut {C:Ctx} {n:Nat} (hn:n≤C.n):∀ (xs:List AV) (vs:List Value),belowL n xs→VRL C xs vs→VRL (C.cut n) xs vs
 | [],_,_,hv=>by simpa only [VRL] using hv
 | x :: xs,vs,hb,hv=>by
  simp only [VRL] at hv ⊢
  simp only [belowL] at hb
  obtain ⟨y,ys,rfl,h1,h2⟩:=hv
  exact ⟨y,ys,rfl,VR.cut hn x y hb.1 h1,VRL.cut hn xs ys hb.2 h2⟩
end
theorem cut_ext {C0 C:Ctx} {n:Nat} (h:Ext C0 C) (hn:C0.n≤n) (hnC:n≤C.n):Ext C0 (C.cut n) where
 forb:=h.forb
 n:=hn
 size:=h.size
 same:=h.same
 image blk ho:=h.image blk (cut_owned hnC ho)
 born b hb:=cut_born (Nat.lt_of_lt_of_le hb.1 hn) (h.born b hb)
 ρ:=h.ρ
 tape:=h.tape
 os:=h.os
 output:=h.output
theorem cut_SR {C:Ctx} {h1 extra:List ABlk} (hs:SR C (h1 ++ extra)) (hb:∀ x ∈ h1,belowB h1.length x):SR (C.cut h1.length) h1:=by
 have hn:h1.length≤C.n:=by rw [← hs.len]; simp
 refine ⟨rfl,fun b x hx=>?_,?_,?_,?_⟩
 ·have hlt:b < h1.length:=(List.getElem?_eq_some_iff.1 hx).1
  have:=hs.blk b x (by rw [List.getElem?_append_left hlt]; exact hx)
  have hbx:=hb x (List.mem_of_getElem? hx)
  cases x with
  | row g sz xs=>
   obtain ⟨hp,l,arr,e,vs,q1,q2,q3,q4,q5,q6,q7,q8⟩:=this
   exact ⟨hp,l,arr,e,vs,q1,q2,q3,q4,q5,q6,q7,VRL.cut hn _ _ hbx q8⟩
  | resv=>exact this
  | dead=>exact this
  | defr=>exact this
  | map es=>exact hbx.elim
  | loop=>exact hbx.elim
 ·intro b b' l l' hb hb' h1' h2' he
  exact hs.inj b b' l l' (Nat.lt_of_lt_of_le hb hn) (Nat.lt_of_lt_of_le hb' hn) h1' h2' he
 ·intro blk hf
  obtain ⟨q1,q2⟩:=hs.forb blk hf
  exact ⟨q1,fun ho=>q2 (cut_owned hn ho)⟩
 ·intro b
  constructor
  ·rintro ⟨hr,hlt⟩
   have:=(hs.res b).1 hr
   rwa [List.getElem?_append_left hlt] at this
  ·intro hx
   have hlt:b < h1.length:=(List.getElem?_eq_some_iff.1 hx).1
   exact ⟨(hs.res b).2 (by rw [List.getElem?_append_left hlt]; exact hx),hlt⟩
def XOk:AX→Prop
 | .normal | .exit _ | .ret=>True
 | _=>False
def belowA (n:Nat):List (Nat×AV)→Prop
 | []=>True
 | p :: l=>belowV n p.2∧belowA n l
def belowH (n:Nat):List ABlk→Prop
 | []=>True
 | b :: l=>belowB n b∧belowH n l
theorem belowA_get {n:Nat}:∀ {l:List (Nat×AV)},belowA n l→∀ t,belowV n (aget l t)
 | [],_,t=>by simp only [aget,belowV]
 | p :: l,h,t=>by
  obtain ⟨k,v⟩:=p
  simp only [aget]
  split
  ·exact h.1
  ·exact belowA_get h.2 t
theorem belowH_mem {n:Nat}:∀ {l:List ABlk},belowH n l→∀ x ∈ l,belowB n x
 | [],_,x,hx=>by cases hx
 | b :: l,h,x,hx=>by
  rcases List.mem_cons.1 hx with rfl | hx
  ·exact h.1
  ·exact belowH_mem h.2 x hx
def CutTo (n0:Nat) (al1:List (Nat×AV)) (h1:List ABlk) (al':List (Nat×AV)) (df':List ADef) (h':List ABlk):Prop:=
 df' = []∧leA al' al1∧(h' = h1 ∨ ∃ extra,h' = h1 ++ extra∧n0≤h1.length∧belowA h1.length al1∧belowH h1.length h1)
theorem CutTo.same {n0:Nat} {al1 al':List (Nat×AV)} {h1:List ABlk} (hl:leA al' al1):CutTo n0 al1 h1 al' [] h1:=⟨rfl,hl,.inl rfl⟩
theorem CutTo.drop {n0:Nat} {al1 al':List (Nat×AV)} {h1:List ABlk} (extra:List ABlk) (hl:leA al' al1) (hn:n0≤h1.length) (ha:belowA h1.length al1) (hh:belowH h1.length h1):CutTo n0 al1 h1 al' [] (h1 ++ extra):=
 ⟨rfl,hl,.inr ⟨extra,rfl,hn,ha,hh⟩⟩
theorem AExec.cutTo {c:Code} {env:List AV} {x:AX} {al1 al':List (Nat×AV)} {df':List ADef} {h':List ABlk} (hx:AExec P rd c env df h ⟨x,lst N al',df',h'⟩) (hc:CutTo h.length al1 h1 al' df' h') (hok:XOk x) :
  AExec P rd c env df h ⟨x,lst N al1,[],h1⟩:=by
 obtain ⟨rfl,hle,hc⟩:=hc
 intro F n C tmps defers hF hs he hd
 refine wpIn_mono (hx F n C tmps defers hF hs he hd) ?_
 rintro e a' w ⟨C',q1,q2,q3,q4,q5,q6⟩
 rcases hc with rfl | ⟨extra,rfl,hn,ha,hh⟩
 ·exact ⟨C',q1,q2,q3,q4,VRL.leA hle q5,q6⟩
 ·have hn':h1.length≤C'.n:=by rw [← q3.len]; simp
  refine ⟨C'.cut h1.length,q1,cut_ext q2 (by rw [← hs.len]; exact hn) hn',cut_SR q3 (belowH_mem hh),?_,VRL.cut hn' _ _ (belowL_iff.2 ?_) (VRL.leA hle q5),?_⟩
  ·cases x <;> simp only [XOk] at hok <;> simpa only [XR] using q4
  ·intro v hv
   simp only [lst,List.mem_map] at hv
   obtain ⟨t,_,rfl⟩:=hv
   exact belowA_get ha t
  ·revert q6
   cases a'.defers <;> simp [DR]
theorem SX.condM {α:Type} {c:Operand} {x y:Code} {t:Bool} {A B:α} {res:α} (hl:tmpLt N c = true) (hc:avA al c = .bool t) (hm:(bif t then A else B) = res) (h1:t = true→A = res→SX P rd x N al df h Q) (h2:t = false→B = res→SX P rd y N al df h Q) :
  SX P rd (.cond c x y) N al df h Q:=
 SX.cond hl hc (fun ht=>h1 ht (by rw [ht] at hm; exact hm)) (fun ht=>h2 ht (by rw [ht] at hm; exact hm))
theorem SX.join {c:Code} (al1:List (Nat×AV)) (h1:List ABlk) (hx:SX P none c N al df h fun x al' df' h'=>x = .normal∧CutTo h.length al1 h1 al' df' h') (h2:Q .normal al1 [] h1) :
  SX P none c N al df h Q:=by
 obtain ⟨x,al',df',h',g1,_,rfl,g3⟩:=hx
 exact ⟨.normal,al1,[],h1,g1.cutTo g3 trivial,rdNone,h2⟩
theorem SX.joinG {G:Type} {c:Code} (AL:G→List (Nat×AV)) (H:G→List ABlk) (hx:SX P none c N al df h fun x al' df' h'=>x = .normal∧∃ g,CutTo h.length (AL g) (H g) al' df' h') (h2:∀ g,Q .normal (AL g) [] (H g)) :
  SX P none c N al df h Q:=by
 obtain ⟨x,al',df',h',g1,_,rfl,g,g3⟩:=hx
 exact ⟨.normal,AL g,[],H g,g1.cutTo g3 trivial,rdNone,h2 g⟩
def RoundQ {S X R G:Type} (id n0:Nat) (AL:S→G→List (Nat×AV)) (H:S→G→List ABlk) (ALX:X→G→List (Nat×AV)) (HX:X→G→List ABlk) (QR:R→List (Nat×AV)→List ADef→List ABlk→Prop) (out:Out S X R) :
  AX→List (Nat×AV)→List ADef→List ABlk→Prop
 | .normal,al',df',h'=>∃ s' g',out = .next s'∧CutTo n0 (AL s' g') (H s' g') al' df' h'
 | .exit i,al',df',h'=>i = id∧∃ e g',out = .exit e∧CutTo n0 (ALX e g') (HX e g') al' df' h'
 | .ret,al',df',h'=>∃ r,out = .ret r∧QR r al' df' h'
 | _,_,_,_=>False
section
variable {S X R G:Type} {id n0:Nat} {AL:S→G→List (Nat×AV)} {H:S→G→List ABlk} {ALX:X→G→List (Nat×AV)} {HX:X→G→List ABlk} {QR:R→List (Nat×AV)→List ADef→List ABlk→Prop} {out:Out S X R} {df':List ADef} {h':List ABlk}
theorem RoundQ.next {s':S} (hb:some (Out.next s') = some out) (g':G) (hc:CutTo n0 (AL s' g') (H s' g') al' df' h'):RoundQ id n0 AL H ALX HX QR out .normal al' df' h':=⟨s',g',(Option.some.inj hb).symm,hc⟩
theorem RoundQ.exit {e:X} (hb:some (Out.exit e) = some out) (g':G) (hc:CutTo n0 (ALX e g') (HX e g') al' df' h'):RoundQ id n0 AL H ALX HX QR out (.exit id) al' df' h':=⟨rfl,e,g',(Option.some.inj hb).symm,hc⟩
theorem RoundQ.ret {r:R} (hb:some (Out.ret r) = some out) (hq:QR r al' df' h'):RoundQ id n0 AL H ALX HX QR out .ret al' df' h':=⟨r,(Option.some.inj hb).symm,hq⟩
theorem SX.iter {body:S→Option (Out S X R)} {F:Nat} {s0:S} {o:X ⊕ R} {c:Code} (AL:S→G→List (Nat×AV)) (H:S→G→List ABlk) (ALX:X→G→List (Nat×AV)) (HX:X→G→List ABlk)
  (QR:R→List (Nat×AV)→List ADef→List ABlk→Prop) (g0:G) (ho:runs body F s0 = some o) (hal:al = AL s0 g0) (hh:h = H s0 g0)
  (hround:∀ s g out,body s = some out→SX P none c N (AL s g) [] (H s g) (RoundQ id (H s g).length AL H ALX HX QR out))
  (hexit:∀ e g,o = .inl e→Q .normal (ALX e g) [] (HX e g))
  (hret:∀ r al' df' h',o = .inr r→QR r al' df' h'→Q .ret al' df' h') :
  SX P none (.block id (.loop c)) N al [] h Q:=by
 subst hal hh
 have key:∀ (F:Nat) (s:S) (g:G),runs body F s = some o→∃ x al' df' h',LoopTo P none c (lst N (AL s g)) [] (H s g) ⟨x,lst N al',df',h'⟩ ∧
   ((∃ e g',x = .exit id∧o = .inl e∧al' = ALX e g'∧df' = []∧h' = HX e g') ∨ (∃ r,x = .ret∧o = .inr r∧QR r al' df' h')):=by
  intro F
  induction F with
  | zero=>intro s g hi; simp [runs] at hi
  | succ F ih=>
   intro s g hi
   simp only [runs] at hi
   cases hb:body s with
   | none=>rw [hb] at hi; cases hi
   | some out=>
    rw [hb] at hi
    obtain ⟨x,al',df',h',g1,_,g3⟩:=hround s g out hb
    cases x with
    | normal=>
     obtain ⟨s',g',rfl,hcut⟩:=g3
     obtain ⟨x2,al2,df2,h2,f1,f2⟩:=ih s' g' hi
     exact ⟨x2,al2,df2,h2,.more (g1.cutTo hcut trivial) rdNone f1,f2⟩
    | exit i=>
     obtain ⟨rfl,e,g',rfl,hcut⟩:=g3
     injection hi with hi
     exact ⟨.exit i,ALX e g',[],HX e g',.stop (g1.cutTo hcut trivial) (by simp),.inl ⟨e,g',rfl,hi.symm,rfl,rfl,rfl⟩⟩
    | ret=>
     obtain ⟨r,rfl,hq⟩:=g3
     injection hi with hi
     exact ⟨.ret,al',df',h',.stop g1 (by simp),.inr ⟨r,rfl,hi.symm,hq⟩⟩
    | panic v=>exact g3.elim
    | goto l=>exact g3.elim
 obtain ⟨x,al',df',h',g1,g2⟩:=key F s0 g0 ho
 rcases g2 with ⟨e,g',rfl,he,rfl,rfl,rfl⟩ | ⟨r,rfl,hr,hq⟩
 ·refine ⟨.normal,ALX e g',[],HX e g',?_,rdNone,hexit e g' he⟩
  have:=AExec.block (id:=id) (AExec.loop g1)
  simpa [AX.inBlock] using this
 ·refine ⟨.ret,al',df',h',?_,rdNone,hret r al' df' h' hr hq⟩
  have:=AExec.block (id:=id) (AExec.loop g1)
  simpa [AX.inBlock] using this
end
def Ret (P:Program) (fn:Func) (v:AV) (al:List (Nat×AV)) (df:List ADef) (h:List ABlk):Prop:=
 ∃ v0 h',ALeave P fn (lst fn.ntmps al) df .returning h (.ret v0) h'∧FrozenV h' v0 v
def RetQ (P:Program) (fn:Func) (v:AV):AX→List (Nat×AV)→List ADef→List ABlk→Prop
 | .ret,al,df,h=>Ret P fn v al df h
 | _,_,_,_=>False
theorem Ret.mk {fn:Func} {v:AV} {vs:List AV} (hv:resultsV P (lst fn.ntmps al) h fn.results.toList = some vs) (hf:FrozenV h (packV vs) v):Ret P fn v al [] h:=⟨packV vs,h,ALeave.ret hv,hf⟩
theorem RetQ.mk {fn:Func} {v:AV} {vs:List AV} (hv:resultsV P (lst fn.ntmps al) h fn.results.toList = some vs) (hf:FrozenV h (packV vs) v):RetQ P fn v .ret al [] h:=Ret.mk hv hf
def LeV (v v':AV):Prop:=∀ (C:Ctx) (y:Value),VR C v y→VR C v' y
def LeL (l l':List AV):Prop:=∀ (C:Ctx) (ys:List Value),VRL C l ys→VRL C l' ys
theorem LeV.refl {v:AV}:LeV v v:=fun _ _ h=>h
theorem LeV.nil {sz:Nat}:LeV .nils (.vw sz []):=fun _ _ h=>VR.nil_vw h
theorem LeV.sl {sz:Nat} {xs:List AV} {c:Option Nat}:LeV (.sl sz xs c) (.vw sz xs):=fun _ _ h=>VR.to_vw h
theorem LeL.nil:LeL [] []:=fun _ _ h=>h
theorem LeL.cons {v v':AV} {l l':List AV} (h:LeV v v') (hl:LeL l l'):LeL (v :: l) (v' :: l'):=fun C ys hy=>by
 simp only [VRL] at hy ⊢
 obtain ⟨z,zs,rfl,h1,h2⟩:=hy
 exact ⟨z,zs,rfl,h C z h1,hl C zs h2⟩
theorem LeV.agg {l l':List AV} (hl:LeL l l'):LeV (.agg l) (.agg l'):=fun C y hy=>by
 simp only [VR] at hy ⊢
 obtain ⟨arr,rfl,h1⟩:=hy
 exact ⟨arr,rfl,hl C _ h1⟩
theorem ACall.weak {f:FuncId} {args args':List AV} {e:AEnd} {h':List ABlk} (hl:LeL args args') (hc:ACall P f args' h e h'):ACall P f args h e h':=
 fun n C cargs hs ha=>hc n C cargs hs (hl C _ ha)
theorem lightV_len {α:Type} {ρ:Operand→AV} {args:Array Operand} {ats:Array TypeId} {t e:TypeId} {x:Operand} {sz:Nat} {f:α→AV} {xs:List α} (hargs:args.toList = [x]) (hat:ats[0]? = some t) (ht:P.underlying t = some (.slice e)) (hx:ρ x = .vw sz (xs.map f)) :
  lightV P ρ h (.call { callee:=.builtin .len,args:=args,argTypes:=ats }) = some (.int .i64 xs.length):=by
 simp [lightV,hargs,hat,hx,lenW,lenV,ht]
theorem ACall.mir {f:FuncId} {fn:Func} {c:Code} {args:List AV} {v:AV} (k:Nat) (hf:P.funcs[f]? = some fn) (hb:fn.body = some c) (ha:ApartL args) {al:List (Nat×AV)}
  (hal:args ++ List.replicate (fn.ntmps - args.length) .poison = lst fn.ntmps al) (hx:SX P none c fn.ntmps al [] (List.replicate k .resv) (RetQ P fn v)) (h:List ABlk):ACall P f args h (.ret v) h:=by
 obtain ⟨x,al',df',h2,g1,_,g3⟩:=hx
 cases x <;> simp only [RetQ] at g3
 obtain ⟨v0,h',g4,g5⟩:=g3
 refine ACall.apart ha (ACall.of_body (out:=⟨.ret,lst fn.ntmps al',df',h2⟩) (m:=.returning) hf hb ?_ rfl g4) g5
 rw [hal]
 exact AExec.keepFor k rdNone (by simpa using g1)
theorem lightV_idx {α:Type} {ρ:Operand→AV} {t e:TypeId} {x i:Operand} {sz:Nat} {f:α→AV} {xs:List α} {n:Int} {y:α} (hx:ρ x = .vw (sz + 1) (xs.map f)) (hi:ρ i = .int .i64 n)
  (ht:P.underlying t = some (.slice e)) (hs:sizeT P e = some (sz + 1)) (hy:idx xs n = some y):lightV P ρ h (.indexAddr t x i) = some (.rptr (f y)):=by
 obtain ⟨h0,hy⟩:=idxE hy
 simp only [lightV,hx,hi,indexAddrW,indexAddrV,ht,hs,List.getElem?_map,hy]
 rw [if_neg (by omega)]
 simp
theorem lightV_quo {ρ:Operand→AV} {t u:TypeId} {x y:Operand} {a b q:Int} (hx:ρ x = .int .i64 a) (hy:ρ y = .int .i64 b) (hq:quoO a b = some q):lightV P ρ h (.binOp .quo t x y u) = some (.int .i64 q):=by
 unfold quoO at hq
 by_cases hb:b = 0
 ·simp [hb] at hq
 ·have hb':(b == 0) = false:=by simpa using hb
  rw [hb'] at hq
  injection hq with hq
  subst hq
  simp only [lightV,binV,hx,hy,isShift,intOp,if_neg hb]
  rfl
theorem lightV_rem {ρ:Operand→AV} {t u:TypeId} {x y:Operand} {a b q:Int} (hx:ρ x = .int .i64 a) (hy:ρ y = .int .i64 b) (hq:remO a b = some q):lightV P ρ h (.binOp .rem t x y u) = some (.int .i64 q):=by
 unfold remO at hq
 by_cases hb:b = 0
 ·simp [hb] at hq
 ·have hb':(b == 0) = false:=by simpa using hb
  rw [hb'] at hq
  injection hq with hq
  subst hq
  simp only [lightV,binV,hx,hy,isShift,intOp,if_neg hb]
  rfl
theorem SOps.splitM {α:Type} {all:Array Oper} {o:Oper} {os:List Oper} {k:Nat} {e:Bool} {A B res:α} (hf:fitsN N all o = true) (hw:wantedA all al o = some true) (hl:lightV P (avA al) h o.op = some (.bool e)) (hr:RdOk rd h)
  (hm:(bif e then A else B) = res) (h1:A = res→SOps P rd all (k + 1) os N (putA al o.dst (.bool true)) df h Q) (h2:B = res→SOps P rd all (k + 1) os N (putA al o.dst (.bool false)) df h Q):SOps P rd all k (o :: os) N al df h Q:=by
 cases e with
 | true=>exact SOps.light hf hw hl hr (h1 hm)
 | false=>exact SOps.light hf hw hl hr (h2 hm)
theorem PO.splitM {α:Type} {all:Array Oper} {o:Oper} {os:List Oper} {e:Bool} {A B res:α} {QA:List (Nat×AV)→Prop} (hf:fitsN N all o = true) (hw:wantedA all al o = some true) (hl:lightV P (avA al) h o.op = some (.bool e))
  (hm:(bif e then A else B) = res) (h1:A = res→PO P rd all os N (putA al o.dst (.bool true)) df h QA) (h2:B = res→PO P rd all os N (putA al o.dst (.bool false)) df h QA):PO P rd all (o :: os) N al df h QA:=by
 cases e with
 | true=>exact PO.light hf hw hl (h1 hm)
 | false=>exact PO.light hf hw hl (h2 hm)
end Go.AL
namespace Go.AL
open Go
variable {P:Program}
def osl (b g:Nat):List AV→AV
 | []=>.nils
 | x :: xs=>.hsl b g 0 (x :: xs).length none
def oblk (sz g:Nat):List AV→ABlk
 | []=>.resv
 | x :: xs=>.row g sz (x :: xs)
theorem fill_row {C:Ctx} {h:List ABlk} (hs:SR C h) {b:Nat} (hres:C.res b) {sz:Nat} {xs:List AV} {vs:List Value} {arr:Array Value} {e:TypeId} {w:World} (hw:Keep C.w w none) (hsize:C.w.heap.size≤w.heap.size) (hpos:0 < sz)
  (hfit:xs.length * sz≤arr.size) (hsz:∀ v ∈ vs,v.cells.size = sz) (hc:∀ k (hk:k < (rowCells vs).length),arr[k]? = some (rowCells vs)[k]) (hl:VRL C xs vs) :
  let l:Loc:={ g:=0,cb:=w.heap.size,d:=0,sz:=sz,size:=arr.size }
  let w':World:={ w with heap:=w.heap.push (.cells arr e) }
  Ext C (C.fill b l w')∧SR (C.fill b l w') (h.set b (.row 0 sz xs))∧Keep C.w w' none:=by
 intro l w'
 have hk:Keep C.w w' none:=hw.trans (Keep.alloc w _)
 have he:=fill_ext (l:=l) hres hsize hk
 refine ⟨he,fill_SR hs hres hsize hk ?_,hk⟩
 have hb:w'.heap[l.cb]? = some (.cells arr e (0,0)):=by simp [w',l]
 refine ⟨hpos,l,arr,e,vs,by simp [Ctx.fill],rfl,rfl,hb,rfl,by simpa [l] using hfit,?_,VRL.ext he _ _ hl⟩
 exact HoldsRow.of_block hb hsz (fun k hk=>by simpa [l] using hc k hk)
theorem append_fill {C:Ctx} {h:List ABlk} (hs:SR C h) {b:Nat} (hb:h[b]? = some .resv) {ats:Array TypeId} {ty:TypeId} {E:ElemT} (hE:(ats[0]?).bind (elemT P) = some E) (hp:plainArg P ats = true) {x:AV} {ys:List AV}
  (hys:contentV h E.size x = some ys) (hne:ys.length ≠ 0) (hg:growOk E ys.length = true) {sv xv:Value} (hsv:VR C .nils sv) (hxv:VR C x xv) :
  ∃ C' v',(Builtin.append_ ats ty #[sv,xv]).run P C.w = .ok v' C'.w∧Ext C C'∧SR C' (h.set b (.row 0 E.size ys))∧VR C' (.hsl b 0 0 ys.length none) v':=by
 obtain ⟨st,hat,hE⟩:=Option.bind_eq_some_iff.1 hE
 obtain ⟨ht,hsz,hpos,⟨i,hi,hib⟩,hbpos,z,zv,hz,hzr,hzs,_⟩:=elemT_spec hE
 obtain ⟨xa,xc,xvs,rfl,hxc,hxl,hxss,hxlen,hxfirst⟩:=contentV_sound (P:=P) hs hys hxv
 simp only [VR] at hsv
 subst hsv
 have hres:C.res b:=(hs.res b).2 hb
 have hl2:=hxl.length
 have hrl:=rowCells_length xvs hxss
 simp only [growOk,Bool.and_eq_true,decide_eq_true_eq] at hg
 have hbd:=hg.2
 rw [← hib] at hbd
 have hrun:=run_append_grow (P:=P) (w:=C.w) (ty:=ty) (z:=zv) (size:=E.size) (sLen:=0) (sCap:=0) (n:=ys.length) (base:=none) (old:=#[]) hat ht hsz hi (hzr _) hp (hxlen _) (hxfirst (drewTo C.w (C.w.drawn + 1)) rfl) (by omega)
  (by simp [Builtin.firstCells]) (by omega) (by simpa using hbd) (by omega)
 have hnc:0 + ys.length≤tapeCap C.w (0 + ys.length) 0 E.e:=Nat.le_add_right _ _
 have hd:=Keep.drew C.w (C.w.drawn + 1)
 have hnn:=Nat.mul_le_mul_right E.size hnc
 obtain ⟨g1,g2,_⟩:=fill_row (C:=C) (sz:=E.size) (xs:=ys) (vs:=xvs) (e:=E.e) (w:=drewTo C.w (C.w.drawn + 1)) hs hres hd (Nat.le_refl _) hpos
  (arr:=#[] ++ (rowCells xvs).toArray ++ Builtin.zeroCells zv.cells (tapeCap C.w (0 + ys.length) 0 E.e - (0 + ys.length))) (by
   simp only [Array.size_append,List.size_toArray,hrl,zeroCells_size,hzs,← hl2]
   omega) hxss (by
   intro k hk
   rw [← Array.getElem?_toList]
   simp only [Array.toList_append,List.nil_append]
   rw [List.getElem?_append_left (by simpa using hk)]
   simp [hk]) hxl
 refine ⟨_,_,hrun,g1,g2,?_⟩
 simp only [VR]
 refine ⟨⟨?_,fun hr=>hr.2 rfl⟩,_,tapeCap C.w (0 + ys.length) 0 E.e,by rw [Nat.zero_add],by omega,by simp,fun l' hl'=>?_⟩
 ·show b < C.n
  rw [← hs.len]
  exact (List.getElem?_eq_some_iff.1 hb).1
 ·simp only [Ctx.fill,if_true] at hl'
  injection hl' with hl'
  subst hl'
  refine ⟨Nat.zero_le _,fun _=>⟨fun _=>by simp [drewTo],?_⟩⟩
  simp only [Array.size_append,List.size_toArray,hrl,zeroCells_size,hzs,← hl2,Nat.zero_add,List.size_toArray,List.length_nil]
  rw [← Nat.add_mul]
  apply Nat.mul_le_mul_right
  omega
theorem osl_ne {b g:Nat} {xs:List AV} (h:xs ≠ []):osl b g xs = .hsl b g 0 xs.length none:=by
 cases xs with
 | nil=>exact absurd rfl h
 | cons x xs=>rfl
theorem oblk_ne {sz g:Nat} {xs:List AV} (h:xs ≠ []):oblk sz g xs = .row g sz xs:=by
 cases xs with
 | nil=>exact absurd rfl h
 | cons x xs=>rfl
theorem AStep.grow {rd:Option Nat} {o:Oper} {ρ:Operand→AV} {df:List ADef} {h:List ABlk} {args:Array Operand} {ats:Array TypeId} {s x:Operand} {b g:Nat} {xs ys:List AV} {E:ElemT} (ho:o.op = .call { callee:=.builtin .append,args:=args,argTypes:=ats })
  (hargs:args.toList = [s,x]) (hs:ρ s = osl b g xs) (hb:h[b]? = some (oblk E.size g xs)) (hE:(ats[0]?).bind (elemT P) = some E) (hp:plainArg P ats = true) (hys:contentV h E.size (ρ x) = some ys)
  (hsolid:solidElems ys E.size = true) (hg:growOk E (xs.length + ys.length) = true):∃ g',AStep P rd o ρ df h (osl b g' (xs ++ ys)) df (h.set b (oblk E.size g' (xs ++ ys))):=by
 by_cases hy:ys = []
 ·subst hy
  refine ⟨g,?_⟩
  rw [List.append_nil]
  have hset:h.set b (oblk E.size g xs) = h:=by
   obtain ⟨hlt,he⟩:=List.getElem?_eq_some_iff.1 hb
   rw [← he]; exact List.set_getElem_self hlt
  rw [hset]
  refine AStep.heavy ?_
  rw [ho]
  simp only [heavyV,hargs,appendV,hE,hp,hys,hs]
  by_cases hx:xs = []
  ·subst hx; simp [osl,contentV]
  ·rw [osl_ne hx]
   rw [oblk_ne hx] at hb
   simp [contentV,rowAt,hb]
 ·by_cases hx:xs = []
  ·subst hx
   refine ⟨0,?_⟩
   have hne:ys.length ≠ 0:=fun e=>hy (List.eq_nil_of_length_eq_zero e)
   rw [List.nil_append,osl_ne hy,oblk_ne hy]
   obtain ⟨dst,op,ty,pos,after,guard⟩:=o
   simp only at ho
   subst ho
   refine AStep.of_run (fun c e=>by cases e) fun C σ hsr hσ=>?_
   have:=list_two hargs; subst this
   have hsv:=hσ s
   rw [hs] at hsv
   obtain ⟨C',v',hr,h1,h2,h3⟩:=append_fill (ty:=ty) hsr hb hE hp hys hne (by simpa using hg) hsv (hσ x)
   exact ⟨C',v',.inl (by simp [execOp,resolve,invoke,builtin,hr]),h1,h2,h3⟩
  ·have hxy:xs ++ ys ≠ []:=by simp [hx]
   refine ⟨g + 1,AStep.heavy ?_⟩
   rw [ho]
   rw [osl_ne hx] at hs
   rw [oblk_ne hx] at hb
   rw [osl_ne hxy,oblk_ne hxy]
   have hne:ys.length ≠ 0:=fun e=>hy (List.eq_nil_of_length_eq_zero e)
   simp only [heavyV,hargs,appendV,hE,hp,hys,hs]
   simp [contentV,rowAt,hb,hne,hsolid,hg]
theorem frozen_osl {h:List ABlk} {b g sz:Nat} {xs:List AV} (hb:h[b]? = some (oblk sz g xs)) (ha:ApartL xs):FrozenV h (osl b g xs) (.vw sz xs):=by
 by_cases hx:xs = []
 ·subst hx; exact .nils
 ·rw [osl_ne hx]
  rw [oblk_ne hx] at hb
  exact .hsl hb rfl hx (.apart ha)
theorem lenW_osl {h:List ABlk} {t e:TypeId} {b g:Nat} {xs:List AV} (ht:P.underlying t = some (.slice e)):lenW P h t (osl b g xs) = some (.int .i64 xs.length):=by
 cases xs with
 | nil=>simp [osl,lenW,lenV,ht]
 | cons x xs=>simp [osl,lenW,lenV,ht]
end Go.AL
namespace Go.AL
open Go
variable {P:Program}
def QSteps (P:Program) (all:Array Oper) (big:Nat) (N:Nat) (al':List (Nat×AV)) (h':List ABlk):Nat→List Oper→List AV→List (List ABlk)→List (Nat×AV)→List ABlk→Prop
 | _,[],[],[],al,h=>al' = al∧h' = h
 | k,o :: os,v :: vs,h1 :: hs,al,h=>fitsN N all o = true∧((wantedA all al o = some true∧AStep P none o (mask o.op (aval (lst N al))) [] h v [] h1∧(big.testBit k = true ∨ h1 = h)) ∨
   (wantedA all al o = some false∧v = undefV∧h1 = h∧big.testBit k = false))∧QSteps P all big N al' h' (k + 1) os vs hs (putA al o.dst v) h1
 | _,_,_,_,_,_=>False
variable {N:Nat} {al al':List (Nat×AV)} {h h':List ABlk} {all ops:Array Oper} {o:Oper} {os:List Oper} {vs:List AV} {hs:List (List ABlk)} {big:Nat}
theorem QSteps.length:∀ {os:List Oper} {vs:List AV} {hs:List (List ABlk)} {k:Nat} {al:List (Nat×AV)} {h:List ABlk},QSteps P all big N al' h' k os vs hs al h→vs.length = os.length∧hs.length = os.length
 | [],[],[],_,_,_,_=>⟨rfl,rfl⟩
 | _ :: _,_ :: _,_ :: _,_,_,_,hp=>by have:=QSteps.length hp.2.2; simp [this.1,this.2]
 | [],[],_ :: _,_,_,_,hp=>hp.elim
 | [],_ :: _,_,_,_,_,hp=>hp.elim
 | _ :: _,[],_,_,_,_,hp=>hp.elim
 | _ :: _,_ :: _,[],_,_,_,hp=>hp.elim
structure QAt (P:Program) (ops:Array Oper) (env:List AV) (va:Nat→AV) (H:Nat→List ABlk) (big:Nat) (i:Nat) (o:Oper):Prop where
 step:(wantedV ops (enOf ops env va i) o = some true∧AStep P none o (mask o.op (aval (enOf ops env va i))) [] (H i) (va i) [] (H (i + 1))∧(big.testBit i = true ∨ H (i + 1) = H i)) ∨
  (wantedV ops (enOf ops env va i) o = some false∧va i = undefV∧H (i + 1) = H i∧big.testBit i = false)
theorem QSteps.at {va:Nat→AV} {H:Nat→List ABlk} {al0:List (Nat×AV)}:∀ {os:List Oper} {vs:List AV} {hs:List (List ABlk)} {al:List (Nat×AV)} {h:List ABlk} {k:Nat},QSteps P ops big N al' h' k os vs hs al h→ops.toList.drop k = os →
  enOf ops (lst N al0) va k = lst N al→H k = h→(∀ i v,vs[i]? = some v→va (k + i) = v)→(∀ i v,hs[i]? = some v→H (k + i + 1) = v) →
  (∀ i o,os[i]? = some o→QAt P ops (lst N al0) va H big (k + i) o)∧enOf ops (lst N al0) va (k + os.length) = lst N al'∧H (k + os.length) = h'
 | [],[],[],al,h,k,hp,_,he,hH,_,_=>by
  obtain ⟨rfl,rfl⟩:=hp
  exact ⟨fun i o ho=>by simp at ho,by simpa using he,by simpa using hH⟩
 | o :: os,v :: vs,h1 :: hs,al,h,k,hp,hd,he,hH,hv,hh=>by
  obtain ⟨hf,hst,hp⟩:=hp
  obtain ⟨ho,hd'⟩:=drop_cons hd
  have hva:=hv 0 v rfl
  have hha:=hh 0 h1 rfl
  simp only [Nat.add_zero] at hva hha
  have hf':=hf
  simp only [fitsN,Bool.and_eq_true] at hf'
  have he':enOf ops (lst N al0) va (k + 1) = lst N (putA al o.dst v):=by
   simp only [enOf,ho,he,hva]
   exact lst_put hf'.1.1
  obtain ⟨g1,g2,g3⟩:=QSteps.at hp hd' he' hha (fun i v' hi=>by
   rw [show k + 1 + i = k + (i + 1) by omega]
   exact hv (i + 1) v' (by simpa using hi)) (fun i v' hi=>by
   rw [show k + 1 + i + 1 = k + (i + 1) + 1 by omega]
   exact hh (i + 1) v' (by simpa using hi))
  refine ⟨fun i o' ho'=>?_,?_,?_⟩
  ·cases i with
   | zero=>
    simp at ho'
    subst ho'
    simp only [Nat.add_zero]
    refine ⟨?_⟩
    rw [he,hH,hva,hha]
    rcases hst with ⟨q1,q2,q3⟩ | ⟨q1,q2,q3,q4⟩
    ·exact .inl ⟨wantedA_ok hf'.2 q1,q2,q3⟩
    ·exact .inr ⟨wantedA_ok hf'.2 q1,q2,q3,q4⟩
   | succ i=>
    rw [show k + (i + 1) = k + 1 + i by omega]
    exact g1 i o' (by simpa using ho')
  ·rw [List.length_cons,show k + (os.length + 1) = k + 1 + os.length by omega]
   exact g2
  ·rw [List.length_cons,show k + (os.length + 1) = k + 1 + os.length by omega]
   exact g3
 | [],[],_ :: _,_,_,_,hp,_,_,_,_,_=>hp.elim
 | [],_ :: _,_,_,_,_,hp,_,_,_,_,_=>hp.elim
 | _ :: _,[],_,_,_,_,hp,_,_,_,_,_=>hp.elim
 | _ :: _,_ :: _,[],_,_,_,hp,_,_,_,_,_=>hp.elim
def upTo (big:Nat) (f:Nat→Nat):Nat→Nat
 | 0=>0
 | p + 1=>bif big.testBit p then upTo big f p ||| f p else upTo big f p
theorem upTo_bit {big:Nat} {f:Nat→Nat} {j:Nat}:∀ {p:Nat},(upTo big f p).testBit j = true↔∃ k,k < p∧big.testBit k = true∧(f k).testBit j = true
 | 0=>by simp [upTo]
 | p + 1=>by
  simp only [upTo]
  cases hb:big.testBit p with
  | false=>
   simp only [cond_false]
   rw [upTo_bit]
   constructor
   ·rintro ⟨k,h1,h2⟩; exact ⟨k,by omega,h2⟩
   ·rintro ⟨k,h1,h2,h3⟩
    have:k ≠ p:=fun e=>by subst e; rw [hb] at h2; cases h2
    exact ⟨k,by omega,h2,h3⟩
  | true=>
   simp only [cond_true]
   rw [Nat.testBit_or,Bool.or_eq_true,upTo_bit]
   constructor
   ·rintro (⟨k,h1,h2⟩ | h1)
    ·exact ⟨k,by omega,h2⟩
    ·exact ⟨p,by omega,hb,h1⟩
   ·rintro ⟨k,h1,h2,h3⟩
    by_cases hk:k = p
    ·subst hk; exact .inr h3
    ·exact .inl ⟨k,by omega,h2,h3⟩
theorem upTo_skip {big:Nat} {f:Nat→Nat} {p i:Nat} (hpi:p≤i) (hno:∀ j,p≤j→j < i→big.testBit j = false):upTo big f i = upTo big f p:=by
 induction i with
 | zero=>
  have:p = 0:=by omega
  subst this; rfl
 | succ i ih=>
  by_cases hp:p = i + 1
  ·subst hp; rfl
  ·simp only [upTo,hno i (by omega) (by omega),cond_false]
   exact ih (by omega) (fun j h1 h2=>hno j h1 (by omega))
def strictB (n:Nat) (masks:List Nat) (big:Nat):Bool:=
 (List.range n).all fun j=>!big.testBit j || (List.range n).all fun i=>Nat.beq i j || (masks.getD j 0).testBit i || (masks.getD i 0).testBit j
theorem drawS_to {bef:Nat→Nat} {env:List AV} {va:Nat→AV} {H:Nat→List ABlk} (hk:DrawOk ops bef)
  (hstrict:∀ i j,i < ops.size→j < ops.size→big.testBit j = true→i ≠ j→(bef j).testBit i = true ∨ (bef i).testBit j = true)
  (hat:∀ i o,ops[i]? = some o→QAt P ops env va H big i o) :
  ∀ (m p:Nat),ops.size - p = m→p≤ops.size→DrawTo P none ops bef env va big ⟨.normal,enOf ops env va ops.size,[],H ops.size⟩ (upTo big (fun j=>2 ^ j) p) (upTo big bef p) [] (H p):=by
 have hsame:∀ (i p:Nat),p≤i→i≤ops.size→(∀ j,p≤j→j < i→big.testBit j = false)→H i = H p:=by
  intro i
  induction i with
  | zero=>
   intro p hp _ _; have:p = 0:=by omega
   subst this; rfl
  | succ i ih=>
   intro p hp hsz hno
   by_cases he:p = i + 1
   ·subst he; rfl
   ·have hi:i < ops.size:=by omega
    have hq:=hat i ops[i] (by simp [hi])
    have hb:=hno i (by omega) (by omega)
    have e1:H (i + 1) = H i:=by
     rcases hq.step with ⟨_,_,q | q⟩ | ⟨_,_,q,_⟩
     ·rw [hb] at q; cases q
     ·exact q
     ·exact q
    rw [e1]
    exact ih p (by omega) (by omega) (fun j h1 h2=>hno j h1 (by omega))
 intro m
 induction m using Nat.strongRecOn with
 | ind m ihm=>
  intro p hm hp
  have hmem:∀ i,i < p→big.testBit i = true→(upTo big (fun j=>2 ^ j) p).testBit i = true:=fun i hi hb=>upTo_bit.2 ⟨i,hi,hb,by simp⟩
  have hpart:∀ i o,ops[i]? = some o→(upTo big bef p).testBit i = false→(upTo big (fun j=>2 ^ j) p).testBit i = false→sub (bef i &&& big) (upTo big (fun j=>2 ^ j) p)→H i = H p∧(p≤i→∀ j,p≤j→j < i→big.testBit j = false):=by
   intro i o ho hfo hB hsub
   have hi:i < ops.size:=(Array.getElem?_eq_some_iff.1 ho).1
   by_cases hpi:p≤i
   ·have hno:∀ j,p≤j→j < i→big.testBit j = false:=by
     intro j h1 h2
     cases hb:big.testBit j with
     | false=>rfl
     | true=>
      rcases hstrict i j hi (by omega) hb (by omega) with q | q
      ·have:=hk.lt _ _ q; omega
      ·have:=hsub j (by rw [Nat.testBit_and,q,hb]; rfl)
       rw [upTo_bit] at this
       obtain ⟨k,k1,_,k3⟩:=this
       rw [Nat.testBit_two_pow,decide_eq_true_eq] at k3
       omega
    exact ⟨hsame i p hpi (by omega) hno,fun _=>hno⟩
   ·refine ⟨(hsame p i (by omega) hp fun j h1 h2=>?_).symm,fun h=>absurd h hpi⟩
    cases hb:big.testBit j with
    | false=>rfl
    | true=>
     by_cases hij:i = j
     ·subst hij
      rw [hmem i (by omega) hb] at hB; cases hB
     ·rcases hstrict i j hi (by omega) hb hij with q | q
      ·have:(upTo big bef p).testBit i = true:=upTo_bit.2 ⟨j,by omega,hb,q⟩
       rw [hfo] at this; cases this
      ·have:=hk.lt _ _ q; omega
  refine DrawTo.node (fun _=>false) (fun _=>[]) (fun i=>H (i + 1)) (fun _=>.poison) rdNone ?_ ?_ ?_ ?_ ?_ ?_
  ·intro i o ho _ _ _
   rcases (hat i o ho).step with ⟨q1,_,_⟩ | ⟨q1,q2,_,q4⟩
   ·exact ⟨true,q1,fun e=>by cases e⟩
   ·exact ⟨false,q1,fun _=>⟨q2,q4⟩⟩
  ·intro i o ho hb hfo hB hsub hw
   have hH:=(hpart i o ho hfo hB hsub).1
   rcases (hat i o ho).step with ⟨_,q2,q3 | q3⟩ | ⟨q1,_⟩
   ·rw [hb] at q3; cases q3
   ·rw [q3,hH] at q2; exact q2
   ·rw [hw] at q1; injection q1 with q1; cases q1
  ·intro i o _ _ _ _ _ hpan; cases hpan
  ·intro i o ho hb hfo hB hsub _
   have hH:=(hpart i o ho hfo hB hsub).1
   rcases (hat i o ho).step with ⟨_,q2,_⟩ | ⟨_,_,_,q4⟩
   ·rw [hH] at q2; exact ⟨q2,rdNone⟩
   ·rw [hb] at q4; cases q4
  ·intro i o ho hb hfo hB hsub _
   have hi:i < ops.size:=(Array.getElem?_eq_some_iff.1 ho).1
   have hpi:p≤i:=by
    rcases Nat.lt_or_ge i p with h | h
    ·rw [hmem i h hb] at hB; cases hB
    ·exact h
   have hno:=(hpart i o ho hfo hB hsub).2 hpi
   have e1:upTo big (fun j=>2 ^ j) p ||| 2 ^ i = upTo big (fun j=>2 ^ j) (i + 1):=by
    simp only [upTo,hb,cond_true]; rw [upTo_skip hpi hno]
   have e2:upTo big bef p ||| bef i = upTo big bef (i + 1):=by
    simp only [upTo,hb,cond_true]; rw [upTo_skip hpi hno]
   rw [e1,e2]
   exact ihm (ops.size - (i + 1)) (by omega) (i + 1) rfl (by omega)
  ·intro hall
   rw [← hsame ops.size p hp (Nat.le_refl _) fun j h1 h2=>?_]
   cases hb:big.testBit j with
   | false=>rfl
   | true=>
    have:=hall j ops[j] (by simp [h2]) hb
    rw [upTo_bit] at this
    obtain ⟨k,k1,_,k3⟩:=this
    rw [Nat.testBit_two_pow,decide_eq_true_eq] at k3
    omega
theorem strictB_ok {n:Nat} {masks:List Nat} (h:strictB n masks big = true):∀ i j,i < n→j < n→big.testBit j = true→i ≠ j→(masks.getD j 0).testBit i = true ∨ (masks.getD i 0).testBit j = true:=by
 intro i j hi hj hb hij
 simp only [strictB,List.all_eq_true] at h
 have h1:=h j (by simpa using hj)
 rw [hb] at h1
 simp only [Bool.not_true,Bool.false_or,List.all_eq_true] at h1
 have h2:=h1 i (by simpa using hi)
 simp only [Bool.or_eq_true] at h2
 rcases h2 with (h2 | h2) | h2
 ·exact absurd (Nat.eq_of_beq_eq_true h2) hij
 ·exact .inl h2
 ·exact .inr h2
def QO (P:Program) (all:Array Oper) (big:Nat) (k:Nat) (os:List Oper) (N:Nat) (al:List (Nat×AV)) (h:List ABlk) (Q:List (Nat×AV)→List ABlk→Prop):Prop:=
 ∃ vs hs al' h',QSteps P all big N al' h' k os vs hs al h∧Q al' h'
variable {k:Nat} {QA:List (Nat×AV)→List ABlk→Prop}
theorem QO.nil (hq:QA al h):QO P all big k [] N al h QA:=⟨[],[],al,h,⟨rfl,rfl⟩,hq⟩
theorem QO.step {v:AV} (hf:fitsN N all o = true) (hw:wantedA all al o = some true) (hs:AStep P none o (mask o.op (aval (lst N al))) [] h v [] h') (hb:big.testBit k = true ∨ h' = h) (h2:QO P all big (k + 1) os N (putA al o.dst v) h' QA):QO P all big k (o :: os) N al h QA:=by
 obtain ⟨vs,hs',al',h'',g1,g2⟩:=h2
 exact ⟨v :: vs,h' :: hs',al',h'',⟨hf,.inl ⟨hw,hs,hb⟩,g1⟩,g2⟩
theorem QO.skip (hf:fitsN N all o = true) (hw:wantedA all al o = some false) (hb:big.testBit k = false) (h2:QO P all big (k + 1) os N (putA al o.dst undefV) h QA):QO P all big k (o :: os) N al h QA:=by
 obtain ⟨vs,hs',al',h'',g1,g2⟩:=h2
 exact ⟨undefV :: vs,h :: hs',al',h'',⟨hf,.inr ⟨hw,rfl,rfl,hb⟩,g1⟩,g2⟩
theorem QO.light {v:AV} (hf:fitsN N all o = true) (hw:wantedA all al o = some true) (hl:lightV P (avA al) h o.op = some v) (h2:QO P all big (k + 1) os N (putA al o.dst v) h QA):QO P all big k (o :: os) N al h QA:=by
 have hf':=hf
 simp only [fitsN,Bool.and_eq_true] at hf'
 exact QO.step hf hw (AStep.light (by rw [lightV_congr (mask_avA hf'.1.2)]; exact hl)) (.inr rfl) h2
theorem QO.heavy {v:AV} (hf:fitsN N all o = true) (hw:wantedA all al o = some true) (hb:big.testBit k = true) (hl:heavyV P (avA al) h o.op = some (v,h')) (h2:QO P all big (k + 1) os N (putA al o.dst v) h' QA):QO P all big k (o :: os) N al h QA:=by
 have hf':=hf
 simp only [fitsN,Bool.and_eq_true] at hf'
 exact QO.step hf hw (AStep.heavy (by rw [heavyV_congr (mask_avA hf'.1.2)]; exact hl)) (.inl hb) h2
theorem QO.heavy0 {v:AV} (hf:fitsN N all o = true) (hw:wantedA all al o = some true) (hl:heavyV P (avA al) h o.op = some (v,h)) (h2:QO P all big (k + 1) os N (putA al o.dst v) h QA):QO P all big k (o :: os) N al h QA:=by
 have hf':=hf
 simp only [fitsN,Bool.and_eq_true] at hf'
 exact QO.step hf hw (AStep.heavy (by rw [heavyV_congr (mask_avA hf'.1.2)]; exact hl)) (.inr rfl) h2
theorem QO.call {c:Call} {f:FuncId} {args:List AV} {v:AV} (hf:fitsN N all o = true) (hw:wantedA all al o = some true) (ho:o.op = .call c) (hc:calleeV (avA al) c = some (f,args)) (hcal:callable P f = true)
  (hcall:ACall P f args h (.ret v) h) (h2:QO P all big (k + 1) os N (putA al o.dst v) h QA):QO P all big k (o :: os) N al h QA:=by
 have hf':=hf
 simp only [fitsN,Bool.and_eq_true] at hf'
 have hx:=mask_avA (al:=al) hf'.1.2
 refine QO.step hf hw ?_ (.inr rfl) h2
 rw [ho] at hx ⊢
 exact AStep.call ho (by rw [calleeV_congr hx]; exact hc) hcal hcall
theorem QO.splitM {α:Type} {e:Bool} {A B res:α} (hf:fitsN N all o = true) (hw:wantedA all al o = some true) (hl:lightV P (avA al) h o.op = some (.bool e))
  (hm:(bif e then A else B) = res) (h1:A = res→QO P all big (k + 1) os N (putA al o.dst (.bool true)) h QA) (h2:B = res→QO P all big (k + 1) os N (putA al o.dst (.bool false)) h QA):QO P all big k (o :: os) N al h QA:=by
 cases e with
 | true=>exact QO.light hf hw hl (h1 hm)
 | false=>exact QO.light hf hw hl (h2 hm)
theorem QO.grow {args:Array Operand} {ats:Array TypeId} {s x:Operand} {b g:Nat} {xs ys:List AV} {E:ElemT} (hf:fitsN N all o = true) (hw:wantedA all al o = some true) (hb:big.testBit k = true)
  (ho:o.op = .call { callee:=.builtin .append,args:=args,argTypes:=ats }) (hargs:args.toList = [s,x]) (hs:avA al s = osl b g xs) (hblk:h[b]? = some (oblk E.size g xs)) (hE:(ats[0]?).bind (elemT P) = some E) (hp:plainArg P ats = true)
  (hys:contentV h E.size (avA al x) = some ys) (hsolid:solidElems ys E.size = true) (hg:growOk E (xs.length + ys.length) = true)
  (h2:∀ g',QO P all big (k + 1) os N (putA al o.dst (osl b g' (xs ++ ys))) (h.set b (oblk E.size g' (xs ++ ys))) QA):QO P all big k (o :: os) N al h QA:=by
 have hf':=hf
 simp only [fitsN,Bool.and_eq_true] at hf'
 have hx:=mask_avA (al:=al) hf'.1.2
 have hmem:∀ y,y ∈ args.toList→mask o.op (aval (lst N al)) y = avA al y:=fun y hy=>hx y (by
  rw [ho]; simp only [Op.operands,Call.operands]; simpa using hy)
 obtain ⟨g',hst⟩:=AStep.grow (P:=P) (rd:=none) (df:=[]) (ρ:=mask o.op (aval (lst N al))) ho hargs (by rw [hmem s (by simp [hargs])]; exact hs) hblk hE hp (by rw [hmem x (by simp [hargs])]; exact hys) hsolid hg
 exact QO.step hf hw hst (.inl hb) (h2 g')
theorem SX.drawS {id:Nat} {Q:AX→List (Nat×AV)→List ADef→List ABlk→Prop} (big:Nat) (hm:P.follows .mixedOrders = true) (hok:drawOkB ops.toList (masksOf ops.toList []) = true) (hst:strictB ops.size (masksOf ops.toList []) big = true)
  (hp:QO P ops big 0 ops.toList N al h fun al' h'=>Q .normal al' [] h'):SX P none (.region id ops true) N al [] h Q:=by
 obtain ⟨vs,hs,al',h',hp,hq⟩:=hp
 have hlen:=hp.length
 obtain ⟨g1,g2,g3⟩:=hp.at (va:=fun i=>vs.getD i .poison) (H:=fun i=>(h :: hs).getD i h) (al0:=al) (by simp) rfl rfl (fun i v hi=>by simp [List.getD,hi]) (fun i v hi=>by simp [List.getD,hi])
 simp only [Nat.zero_add,Array.length_toList] at g1 g2 g3
 refine ⟨.normal,al',[],h',?_,rdNone,hq⟩
 have:=drawS_to (P:=P) (H:=fun i=>(h :: hs).getD i h) (env:=lst N al) (va:=fun i=>vs.getD i .poison) (drawOkB_ok hok) (strictB_ok hst) (fun i o ho=>g1 i o (by simpa using ho)) ops.size 0 (by omega) (by omega)
 rw [g2,g3] at this
 exact AExec.draw hm (drawOkB_ok hok) this
theorem SOps.grow {Q:AX→List (Nat×AV)→List ADef→List ABlk→Prop} {args:Array Operand} {ats:Array TypeId} {s x:Operand} {b g:Nat} {xs ys:List AV} {E:ElemT} (hf:fitsN N all o = true) (hw:wantedA all al o = some true)
  (ho:o.op = .call { callee:=.builtin .append,args:=args,argTypes:=ats }) (hargs:args.toList = [s,x]) (hs:avA al s = osl b g xs) (hblk:h[b]? = some (oblk E.size g xs)) (hE:(ats[0]?).bind (elemT P) = some E) (hp:plainArg P ats = true)
  (hys:contentV h E.size (avA al x) = some ys) (hsolid:solidElems ys E.size = true) (hg:growOk E (xs.length + ys.length) = true)
  (h2:∀ g',SOps P none all (k + 1) os N (putA al o.dst (osl b g' (xs ++ ys))) [] (h.set b (oblk E.size g' (xs ++ ys))) Q):SOps P none all k (o :: os) N al [] h Q:=by
 have hf':=hf
 simp only [fitsN,Bool.and_eq_true] at hf'
 have hx:=avA_op (al:=al) hf'.1.2
 have hmem:∀ y,y ∈ args.toList→aval (lst N al) y = avA al y:=fun y hy=>hx y (by
  rw [ho]; simp only [Op.operands,Call.operands]; simpa using hy)
 obtain ⟨g',hst⟩:=AStep.grow (P:=P) (rd:=none) (df:=[]) (ρ:=aval (lst N al)) ho hargs (by rw [hmem s (by simp [hargs])]; exact hs) hblk hE hp (by rw [hmem x (by simp [hargs])]; exact hys) hsolid hg
 exact SOps.step hf hw hst rdNone (h2 g')
end Go.AL
namespace Go.AL
open Go
variable {P:Program}
theorem below_osl {n b g:Nat} {xs:List AV} (hb:b < n) (_:belowL n xs):belowV n (osl b g xs):=by
 cases xs with
 | nil=>simp only [osl,belowV]
 | cons x xs=>simp only [osl,belowV]; exact hb
theorem below_oblk {n sz g:Nat} {xs:List AV} (h:belowL n xs):belowB n (oblk sz g xs):=by
 cases xs with
 | nil=>simp only [oblk,belowB]
 | cons x xs=>simpa only [oblk,belowB] using h
def mm64 (mx:Bool) (a b:Int):Int:=if mx then (if b > a then b else a) else (if b < a then b else a)
def sadd (a b:ByteArray):Option ByteArray:=if ((a.size + b.size:Nat):Int) > IntKind.i64.max then none else some (a ++ b)
def sidx (s:ByteArray) (i:Int):Option Int:=bif decide (i < 0) then none else (s[i.toNat]?).map fun b=>(b.toNat:Int)
variable {N:Nat} {al:List (Nat×AV)} {h:List ABlk} {all:Array Oper} {o:Oper} {os:List Oper} {big k:Nat}
theorem lightV_sadd {ρ:Operand→AV} {t u:TypeId} {x y:Operand} {a b c:ByteArray} (hx:ρ x = .str a) (hy:ρ y = .str b) (hq:sadd a b = some c):lightV P ρ h (.binOp .add t x y u) = some (.str c):=by
 unfold sadd at hq
 split at hq
 ·cases hq
 ·rename_i hn
  injection hq with hq
  subst hq
  simp only [lightV,binV,hx,hy,strOp,if_neg hn]
theorem lightV_sidx {ρ:Operand→AV} {t:TypeId} {x i:Operand} {s:ByteArray} {kd:IntKind} {n y:Int} (hx:ρ x = .str s) (hi:ρ i = .int kd n) (ht:P.underlying t = some .string) (hq:sidx s n = some y):lightV P ρ h (.index t x i) = some (.int .u8 y):=by
 unfold sidx at hq
 by_cases h0:n < 0
 ·simp [h0] at hq
 ·have:decide (n < 0) = false:=by simpa using h0
  rw [this] at hq
  simp only [cond_false] at hq
  obtain ⟨b,hb,rfl⟩:=Option.map_eq_some_iff.1 hq
  simp only [lightV,indexV,hx,hi,if_neg h0,ht,hb,Option.map_some]
theorem lightV_lenO {α:Type} {ρ:Operand→AV} {args:Array Operand} {ats:Array TypeId} {t e:TypeId} {x:Operand} {b g:Nat} {f:α→AV} {xs:List α} (hargs:args.toList = [x]) (hat:ats[0]? = some t) (ht:P.underlying t = some (.slice e)) (hx:ρ x = osl b g (xs.map f)) :
  lightV P ρ h (.call { callee:=.builtin .len,args:=args,argTypes:=ats }) = some (.int .i64 xs.length):=by
 simp only [lightV,hargs,hat,hx,lenW_osl ht,List.length_map]
theorem lightV_lenL {α:Type} {ρ:Operand→AV} {args:Array Operand} {ats:Array TypeId} {t e:TypeId} {x:Operand} {sz:Nat} {c:Option Nat} {f:α→AV} {xs:List α} (hargs:args.toList = [x]) (hat:ats[0]? = some t) (ht:P.underlying t = some (.slice e)) (hx:ρ x = .sl sz (xs.map f) c) :
  lightV P ρ h (.call { callee:=.builtin .len,args:=args,argTypes:=ats }) = some (.int .i64 xs.length):=by
 simp [lightV,hargs,hat,hx,lenW,lenV,ht]
theorem appE {α:Type} {xs ys zs:List α} (h:app xs ys = some zs):xs.length + ys.length < 1073741824∧zs = xs ++ ys:=by
 unfold app at h
 by_cases hc:xs.length + ys.length < 1073741824
 ·simp [hc] at h; exact ⟨hc,h.symm⟩
 ·simp [hc] at h
theorem solid_map {α:Type} {f:α→AV} {sz:Nat} (h:∀ a,solidElems [f a] sz = true) (ys:List α):solidElems (ys.map f) sz = true:=by
 induction ys with
 | nil=>rfl
 | cons y ys ih=>
  have:=h y
  simp only [solidElems,List.all_cons,List.all_nil,Bool.and_true,List.map_cons] at this ih ⊢
  rw [this,ih]; rfl
theorem grow_bound {E:ElemT} {n:Nat} (hb:Nat.ble E.bytes 65536 = true) (hn:n < 1073741824):growOk E n = true:=by
 have hb':E.bytes≤65536:=Nat.le_of_ble_eq_true hb
 simp only [growOk,Bool.and_eq_true,decide_eq_true_eq]
 refine ⟨by omega,?_⟩
 calc (2 * n + 192) * E.bytes≤2147483840 * 65536:=Nat.mul_le_mul (by omega) hb'
  _≤2 ^ 48:=by decide
theorem SOps.growM {α:Type} {Q:AX→List (Nat×AV)→List ADef→List ABlk→Prop} {f:α→AV} {xs ys zs:List α} {args:Array Operand} {ats:Array TypeId} {s x:Operand} {b g:Nat} {E:ElemT} (hf:fitsN N all o = true) (hw:wantedA all al o = some true)
  (ho:o.op = .call { callee:=.builtin .append,args:=args,argTypes:=ats }) (hargs:args.toList = [s,x]) (hE:(ats[0]?).bind (elemT P) = some E) (hp:plainArg P ats = true) (hs:avA al s = osl b g (xs.map f)) (hblk:h[b]? = some (oblk E.size g (xs.map f)))
  (hys:contentV h E.size (avA al x) = some (ys.map f)) (hsolid:∀ a,solidElems [f a] E.size = true) (hb:Nat.ble E.bytes 65536 = true) (ha:app xs ys = some zs)
  (h2:∀ g',SOps P none all (k + 1) os N (putA al o.dst (osl b g' (zs.map f))) [] (h.set b (oblk E.size g' (zs.map f))) Q):SOps P none all k (o :: os) N al [] h Q:=by
 obtain ⟨h1,rfl⟩:=appE ha
 refine SOps.grow hf hw ho hargs hs hblk hE hp hys (solid_map hsolid ys) (grow_bound hb (by simpa using h1)) fun g'=>?_
 have:=h2 g'
 rw [List.map_append] at this
 exact this
theorem QO.growM {α:Type} {QA:List (Nat×AV)→List ABlk→Prop} {f:α→AV} {xs ys zs:List α} {args:Array Operand} {ats:Array TypeId} {s x:Operand} {b g:Nat} {E:ElemT} (hf:fitsN N all o = true) (hw:wantedA all al o = some true) (hbig:big.testBit k = true)
  (ho:o.op = .call { callee:=.builtin .append,args:=args,argTypes:=ats }) (hargs:args.toList = [s,x]) (hE:(ats[0]?).bind (elemT P) = some E) (hp:plainArg P ats = true) (hs:avA al s = osl b g (xs.map f)) (hblk:h[b]? = some (oblk E.size g (xs.map f)))
  (hys:contentV h E.size (avA al x) = some (ys.map f)) (hsolid:∀ a,solidElems [f a] E.size = true) (hb:Nat.ble E.bytes 65536 = true) (ha:app xs ys = some zs)
  (h2:∀ g',QO P all big (k + 1) os N (putA al o.dst (osl b g' (zs.map f))) (h.set b (oblk E.size g' (zs.map f))) QA):QO P all big k (o :: os) N al h QA:=by
 obtain ⟨h1,rfl⟩:=appE ha
 refine QO.grow hf hw hbig ho hargs hs hblk hE hp hys (solid_map hsolid ys) (grow_bound hb (by simpa using h1)) fun g'=>?_
 have:=h2 g'
 rw [List.map_append] at this
 exact this
end Go.AL
namespace Go.AL
open Go
def ints (l:List Int):List AV:=l.map (AV.int .i64)
@[simp] theorem ints_length (l:List Int):(ints l).length = l.length:=by simp [ints]
def I64 (n:Int):Prop:=-9223372036854775808≤n∧n < 9223372036854775808
def small (n:Nat):Prop:=n≤1048576
structure Rel where
 arity:Int
 tuples:List Int
structure Scope where
 atoms:List Int
 steps:Int
structure Bound where
 lower:Rel
 upper:Rel
structure Model where
 scope:Scope
 states:List (List Rel)
 loop:Int
structure Sort' where
 name:ByteArray
 ordered:Bool
structure Field where
 name:ByteArray
 sorts:List Int
 var:Bool
inductive Node where
 | mk (op:Int) (name:ByteArray) (n:Int) (kids:List Node) (pos:Int)
structure Param where
 name:ByteArray
 sort:Int
structure Pred where
 name:ByteArray
 params:List Param
 body:Node
structure Fact where
 name:ByteArray
 body:Node
structure Spec where
 sorts:List Sort'
 fields:List Field
 preds:List Pred
 facts:List Fact
def i64 (n:Int):AV:=.int .i64 n
def Rel.cells (r:Rel):List AV:=[.int .i64 r.arity,.vw 1 (ints r.tuples)]
def Rel.av (r:Rel):AV:=.agg r.cells
def Scope.cells (s:Scope):List AV:=[.vw 1 (ints s.atoms),.int .i64 s.steps]
def Scope.av (s:Scope):AV:=.agg s.cells
def Bound.av (b:Bound):AV:=.agg [.int .i64 b.lower.arity,.vw 1 (ints b.lower.tuples),.int .i64 b.upper.arity,.vw 1 (ints b.upper.tuples)]
def rels (l:List Rel):AV:=.vw 2 (l.map Rel.av)
def Model.av (m:Model):AV:=.agg [.vw 1 (ints m.scope.atoms),.int .i64 m.scope.steps,.vw 1 (m.states.map rels),.int .i64 m.loop]
def Sort'.av (s:Sort'):AV:=.agg [.str s.name,.bool s.ordered]
def Field.av (f:Field):AV:=.agg [.str f.name,.vw 1 (ints f.sorts),.bool f.var]
mutual
def Node.av:Node→AV
 | .mk op name n kids pos=>.agg [.int .i64 op,.str name,.int .i64 n,.vw 5 (navs kids),.int .i64 pos]
def navs:List Node→List AV
 | []=>[]
 | n :: ns=>n.av :: navs ns
end
def Param.av (p:Param):AV:=.agg [.str p.name,.int .i64 p.sort]
def Node.op:Node→Int | .mk op _ _ _ _=>op
def Node.name:Node→ByteArray | .mk _ name _ _ _=>name
def Node.n:Node→Int | .mk _ _ n _ _=>n
def Node.kids:Node→List Node | .mk _ _ _ kids _=>kids
def Node.pos:Node→Int | .mk _ _ _ _ pos=>pos
def Node.cells (n:Node):List AV:=[.int .i64 n.op,.str n.name,.int .i64 n.n,.vw 5 (navs n.kids),.int .i64 n.pos]
def Pred.av (p:Pred):AV:=.agg ([.str p.name,.vw 2 (p.params.map Param.av)] ++ p.body.cells)
def Fact.av (f:Fact):AV:=.agg ([.str f.name] ++ f.body.cells)
def Spec.av (s:Spec):AV:=.agg [.vw 2 (s.sorts.map Sort'.av),.vw 3 (s.fields.map Field.av),.vw 7 (s.preds.map Pred.av),.vw 6 (s.facts.map Fact.av)]
theorem ApartL.ints {l:List Int}:ApartL (ints l):=ApartL.map fun _ _=>.int
theorem Rel.apart (r:Rel):ApartV r.av:=.agg (.cons .int (.cons (.vw .ints) .nil))
theorem Scope.apart (s:Scope):ApartV s.av:=.agg (.cons (.vw .ints) (.cons .int .nil))
theorem Bound.apart (b:Bound):ApartV b.av:=.agg (.cons .int (.cons (.vw .ints) (.cons .int (.cons (.vw .ints) .nil))))
theorem rels_apart (l:List Rel):ApartV (rels l):=.vw (ApartL.map fun r _=>r.apart)
theorem Model.apart (m:Model):ApartV m.av:=.agg (.cons (.vw .ints) (.cons .int (.cons (.vw (ApartL.map fun l _=>rels_apart l)) (.cons .int .nil))))
theorem Sort'.apart (s:Sort'):ApartV s.av:=.agg (.cons .str (.cons .bool .nil))
theorem Field.apart (f:Field):ApartV f.av:=.agg (.cons .str (.cons (.vw .ints) (.cons .bool .nil)))
mutual
theorem Node.apart:∀ (n:Node),ApartV n.av
 | .mk op name n kids pos=>by
  simp only [Node.av]
  exact .agg (.cons .int (.cons .str (.cons .int (.cons (.vw (navs_apart kids)) (.cons .int .nil)))))
theorem navs_apart:∀ (l:List Node),ApartL (navs l)
 | []=>by simp only [navs]; exact .nil
 | n :: ns=>by simp only [navs]; exact .cons n.apart (navs_apart ns)
end
theorem Param.apart (p:Param):ApartV p.av:=.agg (.cons .str (.cons .int .nil))
theorem Node.cells_apart (n:Node):ApartL n.cells:=.cons .int (.cons .str (.cons .int (.cons (.vw (navs_apart _)) (.cons .int .nil))))
theorem Pred.apart (p:Pred):ApartV p.av:=.agg (ApartL.append (.cons .str (.cons (.vw (ApartL.map fun q _=>q.apart)) .nil)) p.body.cells_apart)
theorem Fact.apart (f:Fact):ApartV f.av:=.agg (ApartL.append (.cons .str .nil) f.body.cells_apart)
theorem Spec.apart (s:Spec):ApartV s.av:=
 .agg (.cons (.vw (ApartL.map fun x _=>x.apart)) (.cons (.vw (ApartL.map fun x _=>x.apart)) (.cons (.vw (ApartL.map fun x _=>x.apart)) (.cons (.vw (ApartL.map fun x _=>x.apart)) .nil))))
theorem navs_eq (l:List Node):navs l = l.map Node.av:=by
 induction l with
 | nil=>rfl
 | cons n ns ih=>simp [navs,ih]
theorem Node.av_eq (n:Node):n.av = .agg n.cells:=by cases n; simp [Node.av,Node.cells,Node.op,Node.name,Node.n,Node.kids,Node.pos]
structure Pair where
 fst:Int
 snd:Int
def Pair.av (p:Pair):AV:=.agg [.int .i64 p.fst,.int .i64 p.snd]
theorem Pair.apart (p:Pair):ApartV p.av:=.agg (.cons .int (.cons .int .nil))
theorem Pair.belowN (n:Nat) (r:Pair):belowV n r.av:=by simp only [Pair.av,belowV,belowL,and_self]
structure Diag where
 err:Int
 pos:Int
def Diag.av (d:Diag):AV:=.agg [.int .i64 d.err,.int .i64 d.pos]
theorem Diag.apart (d:Diag):ApartV d.av:=.agg (.cons .int (.cons .int .nil))
theorem next_i {i:Nat} (h:i < 1048577):IntKind.i64.wrap ((i:Int) + 1) = ((i + 1:Nat):Int):=by rw [wrap64 (by omega) (by omega)]; rfl
theorem take_sum {l:List Int} {i:Nat} (h:i < l.length):(l.take (i + 1)).sum = (l.take i).sum + l[i]:=by
 rw [List.take_succ_eq_append_getElem h,List.sum_append,List.sum_singleton]
theorem below_ints {n:Nat} {l:List Int}:belowL n (ints l):=belowL_map fun _=>by simp only [belowV]
theorem Rel.belowN (n:Nat) (r:Rel):belowV n r.av:=by simp only [Rel.av,Rel.cells,belowV,belowL,below_ints,and_self]
theorem Scope.belowN (n:Nat) (r:Scope):belowV n r.av:=by simp only [Scope.av,Scope.cells,belowV,belowL,below_ints,and_self]
theorem Bound.belowN (n:Nat) (r:Bound):belowV n r.av:=by simp only [Bound.av,belowV,belowL,below_ints,and_self]
theorem rels_below (n:Nat) (l:List Rel):belowV n (rels l):=by simp only [rels,belowV]; exact belowL_map (Rel.belowN n)
theorem Model.belowN (n:Nat) (r:Model):belowV n r.av:=by
 simp only [Model.av,belowV,belowL,below_ints,true_and,and_true]; exact belowL_map (rels_below n)
theorem Sort'.belowN (n:Nat) (r:Sort'):belowV n r.av:=by simp only [Sort'.av,belowV,belowL,and_self]
theorem Field.belowN (n:Nat) (r:Field):belowV n r.av:=by simp only [Field.av,belowV,belowL,below_ints,and_self]
theorem Diag.belowN (n:Nat) (r:Diag):belowV n r.av:=by simp only [Diag.av,belowV,belowL,and_self]
mutual
theorem Node.belowN (n:Nat):∀ (r:Node),belowV n r.av
 | .mk op name k kids pos=>by simp only [Node.av,belowV,belowL,true_and,and_true]; exact navs_below n kids
theorem navs_below (n:Nat):∀ (l:List Node),belowL n (navs l)
 | []=>by simp only [navs,belowL]
 | x :: xs=>by simp only [navs,belowL]; exact ⟨x.belowN n,navs_below n xs⟩
end
theorem Param.belowN (n:Nat) (r:Param):belowV n r.av:=by simp only [Param.av,belowV,belowL,and_self]
theorem Node.cells_below (n:Nat) (r:Node):belowL n r.cells:=by simp only [Node.cells,belowV,belowL,true_and,and_true]; exact navs_below n _
theorem Pred.belowN (n:Nat) (r:Pred):belowV n r.av:=by
 simp only [Pred.av,belowV,belowL,List.cons_append,List.nil_append,true_and]; exact ⟨belowL_map (Param.belowN n),r.body.cells_below n⟩
theorem Fact.belowN (n:Nat) (r:Fact):belowV n r.av:=by
 simp only [Fact.av,belowV,belowL,List.cons_append,List.nil_append,true_and]; exact r.body.cells_below n
theorem Spec.belowN (n:Nat) (r:Spec):belowV n r.av:=by
 simp only [Spec.av,belowV,belowL,and_true]; exact ⟨belowL_map (Sort'.belowN n),belowL_map (Field.belowN n),belowL_map (Pred.belowN n),belowL_map (Fact.belowN n)⟩
variable {P:Program} {h:List ABlk}
theorem lightV_idxN {ρ:Operand→AV} {t e:TypeId} {x i:Operand} {xs:List Node} {n:Int} {y:Node} (hx:ρ x = .vw 5 (navs xs)) (hi:ρ i = .int .i64 n)
  (ht:P.underlying t = some (.slice e)) (hs:sizeT P e = some 5) (hy:idx xs n = some y):lightV P ρ h (.indexAddr t x i) = some (.rptr (.agg y.cells)):=
 Node.av_eq y ▸ lightV_idx (f:=Node.av) (xs:=xs) (by rw [hx,navs_eq]) hi ht hs hy
theorem lightV_lenN {ρ:Operand→AV} {args:Array Operand} {ats:Array TypeId} {t e:TypeId} {x:Operand} {xs:List Node} (hargs:args.toList = [x]) (hat:ats[0]? = some t) (ht:P.underlying t = some (.slice e)) (hx:ρ x = .vw 5 (navs xs)) :
  lightV P ρ h (.call { callee:=.builtin .len,args:=args,argTypes:=ats }) = some (.int .i64 xs.length):=
 lightV_len (f:=Node.av) (xs:=xs) hargs hat ht (by rw [hx,navs_eq])
end Go.AL
namespace Go.AL
open Go
variable {P:Program}
theorem ApartV.func {fn:Fn} {f c:List AV} (hf:ApartL f) (hc:ApartL c):ApartV (.func fn f c):=fun C C2 y hw hok hv=>by
 simp only [VR] at hv ⊢
 obtain ⟨f',c',rfl,h1,h2⟩:=hv
 exact ⟨f',c',rfl,hf.vrl hw hok h1,hc.vrl hw hok h2⟩
def ReadV (h:List ABlk) (v v':AV):Prop:=∀ (C:Ctx) (y:Value),SR C h→VR C v y→VR C.reader v' y
def ReadL (h:List ABlk) (l l':List AV):Prop:=∀ (C:Ctx) (ys:List Value),SR C h→VRL C l ys→VRL C.reader l' ys
theorem reader_outer {C:Ctx} {h:List ABlk} (hs:SR C h):Outer C C.reader:=by
 have hno:∀ blk,¬ C.reader.owned blk:=by rintro blk ⟨b,l,hb,_⟩; simp [Ctx.reader] at hb
 exact ⟨rfl,fun blk hb=>⟨hb.1,hb.2.1,hno blk⟩,fun b l hb hl=>⟨hs.lt hb hl,fun hf=>(hs.forb _ hf).2 ⟨b,l,hb,hl,rfl⟩,hno _⟩⟩
theorem ReadV.of_frozen {h:List ABlk} {v v':AV} (hf:FrozenV h v v'):ReadV h v v':=fun C y hs hy=>hf C C.reader y hs (reader_outer hs) hy
theorem ReadV.apart {h:List ABlk} {v:AV} (hv:ApartV v):ReadV h v v:=.of_frozen (.apart hv)
theorem ReadV.nil {h:List ABlk} {sz:Nat}:ReadV h .nils (.vw sz []):=.of_frozen .nils
theorem ReadV.sl {h:List ABlk} {sz:Nat} {xs:List AV} {c:Option Nat} (hl:ApartL xs):ReadV h (.sl sz xs c) (.vw sz xs):=.of_frozen (.sl (.apart hl))
theorem ReadV.osl {h:List ABlk} {b g sz:Nat} {xs:List AV} (hb:h[b]? = some (oblk sz g xs)) (ha:ApartL xs):ReadV h (osl b g xs) (.vw sz xs):=.of_frozen (frozen_osl hb ha)
theorem ReadL.nil {h:List ABlk}:ReadL h [] []:=fun _ _ _ hy=>by simpa only [VRL] using hy
theorem ReadL.cons {h:List ABlk} {v v':AV} {l l':List AV} (hv:ReadV h v v') (hl:ReadL h l l'):ReadL h (v :: l) (v' :: l'):=fun C ys hs hy=>by
 simp only [VRL] at hy ⊢
 obtain ⟨z,zs,rfl,h1,h2⟩:=hy
 exact ⟨z,zs,rfl,hv C z hs h1,hl C zs hs h2⟩
theorem ReadL.apart {h:List ABlk} {l:List AV} (hl:ApartL l):ReadL h l l:=fun C ys hs hy=>hl.vrl (reader_outer hs).w (reader_outer hs).ok hy
theorem ReadV.agg {h:List ABlk} {cs cs':List AV} (hl:ReadL h cs cs'):ReadV h (.agg cs) (.agg cs'):=fun C y hs hy=>by
 simp only [VR] at hy ⊢
 obtain ⟨arr,rfl,h1⟩:=hy
 exact ⟨arr,rfl,hl C _ hs h1⟩
theorem ReadV.func {h:List ABlk} {fn:Fn} {f f' c c':List AV} (hf:ReadL h f f') (hc:ReadL h c c'):ReadV h (.func fn f c) (.func fn f' c'):=fun C y hs hy=>by
 simp only [VR] at hy ⊢
 obtain ⟨f',c',rfl,h1,h2⟩:=hy
 exact ⟨f',c',rfl,hf C _ hs h1,hc C _ hs h2⟩
theorem ReadV.ptr {h:List ABlk} {b g sz:Nat} {x x':AV} {cs:List AV} (hb:h[b]? = some (.row g sz [x])) (hc:cellsV x = some cs) (hlen:cs.length ≠ 0) (hx:ReadV h x x'):ReadV h (.ptr b g 0 0) (.rptr x'):=fun C y hs hy=>by
 simp only [VR] at hy ⊢
 obtain ⟨hbn,a,rfl,ha⟩:=hy
 obtain ⟨hp,l,arr,e,vs,r1,r2,r3,r4,r5,r6,r7,r8⟩:=hs.blk b _ hb
 have ha':=(ha l r1).2 r2.symm
 simp only [VRL] at r8
 obtain ⟨z,zs,rfl,h1,rfl⟩:=r8
 have hz:=r7 0 (by simp)
 simp only [List.getElem_cons_zero] at hz
 obtain ⟨hcl,_⟩:=cellsV_sound hc h1
 have hcl':=hcl.length
 simp only [Array.length_toList] at hcl'
 refine ⟨a,z,rfl,by rw [ha'],?_,by omega,?_,hx C z hs h1⟩
 ·rw [ha']; exact (reader_outer hs).owned b l hbn.1 r1
 ·rw [ha']
  have:=hz.2
  simpa [Ctx.reader] using this
structure OuterW (C C2:Ctx):Prop where
 w:C2.w = C.w
 owned:∀ b l,b < C.n→C.ρ b = some l→C2.ok l.cb
def FreshV (h:List ABlk) (v v':AV):Prop:=∀ (C C2:Ctx) (y:Value),SR C h→OuterW C C2→VR C v y→VR C2 v' y
def FreshL (h:List ABlk) (l l':List AV):Prop:=∀ (C C2:Ctx) (ys:List Value),SR C h→OuterW C C2→VRL C l ys→VRL C2 l' ys
theorem FreshL.nil {h:List ABlk}:FreshL h [] []:=fun _ _ _ _ _ hy=>by simpa only [VRL] using hy
theorem FreshL.cons {h:List ABlk} {v v':AV} {l l':List AV} (hv:FreshV h v v') (hl:FreshL h l l'):FreshL h (v :: l) (v' :: l'):=fun C C2 ys hs ho hy=>by
 simp only [VRL] at hy ⊢
 obtain ⟨z,zs,rfl,h1,h2⟩:=hy
 exact ⟨z,zs,rfl,hv C C2 z hs ho h1,hl C C2 zs hs ho h2⟩
theorem FreshL.map {h:List ABlk} {α:Type} {f:α→AV} {l:List α} (hf:∀ x,FreshV h (f x) (f x)):FreshL h (l.map f) (l.map f):=by
 induction l with
 | nil=>exact .nil
 | cons x xs ih=>exact .cons (hf x) ih
theorem FreshV.int {h:List ABlk} {k:IntKind} {n:Int}:FreshV h (.int k n) (.int k n):=fun _ _ _ _ _ hy=>by simpa only [VR] using hy
theorem FreshV.bool {h:List ABlk} {b:Bool}:FreshV h (.bool b) (.bool b):=fun _ _ _ _ _ hy=>by simpa only [VR] using hy
theorem FreshV.str {h:List ABlk} {b:ByteArray}:FreshV h (.str b) (.str b):=fun _ _ _ _ _ hy=>by simpa only [VR] using hy
theorem FreshV.nils {h:List ABlk} {sz:Nat}:FreshV h .nils (.vw sz []):=fun C C2 y _ _ hy=>by
 simp only [VR] at hy ⊢
 exact .inl ⟨hy,trivial⟩
theorem FreshV.agg {h:List ABlk} {cs cs':List AV} (hl:FreshL h cs cs'):FreshV h (.agg cs) (.agg cs'):=fun C C2 y hs ho hy=>by
 simp only [VR] at hy ⊢
 obtain ⟨arr,rfl,h1⟩:=hy
 exact ⟨arr,rfl,hl C C2 _ hs ho h1⟩
theorem FreshV.tup {h:List ABlk} {cs cs':List AV} (hl:FreshL h cs cs'):FreshV h (.tup cs) (.tup cs'):=fun C C2 y hs ho hy=>by
 simp only [VR] at hy ⊢
 obtain ⟨arr,rfl,h1⟩:=hy
 exact ⟨arr,rfl,hl C C2 _ hs ho h1⟩
theorem FreshV.hsl {h:List ABlk} {b g len sz:Nat} {cap:Option Nat} {xs xs':List AV} (hb:h[b]? = some (.row g sz xs)) (hlen:len = xs.length) (hpos:xs ≠ []) (hl:FreshL h xs xs'):FreshV h (.hsl b g 0 len cap) (.vw sz xs'):=fun C C2 y hs ho hy=>by
 subst hlen
 simp only [VR] at hy ⊢
 obtain ⟨hbn,a,c,rfl,hlc,_,ha⟩:=hy
 obtain ⟨_,l,arr,e,vs,r1,r2,r3,r4,r5,r6,r7,r8⟩:=hs.blk b _ hb
 have hn:0 < xs.length:=List.length_pos_iff.2 hpos
 have ha':=((ha l r1).2 r2.symm).1 (by omega)
 have h6':=hl C C2 vs hs ho r8
 have e1:=r8.length
 have e2:=h6'.length
 refine .inr ⟨a,c,vs,by rw [e2,e1],by omega,fun _=>by rw [ha'],fun _=>by rw [ha']; exact ho.owned b l hbn.1 r1,?_,h6'⟩
 rw [ho.w,ha']
 simpa [r3] using r7
theorem FreshV.osl {h:List ABlk} {b g sz:Nat} {xs:List AV} (hb:h[b]? = some (oblk sz g xs)) (ha:FreshL h xs xs):FreshV h (osl b g xs) (.vw sz xs):=by
 by_cases hx:xs = []
 ·subst hx; exact .nils
 ·rw [osl_ne hx]
  rw [oblk_ne hx] at hb
  exact .hsl hb rfl hx ha
theorem ACall.readsP {f:FuncId} {args args':List AV} {h h':List ABlk} {v v':AV} (ha:ReadL h args args') (hc:ACall P f args' [] (.ret v) h') (hv:FreshV h' v v'):ACall P f args h (.ret v') h:=by
 intro n C cargs hs hargs
 have hno:∀ blk,¬ C.reader.owned blk:=by rintro blk ⟨b,l,hb,_⟩; simp [Ctx.reader] at hb
 have hsr:SR C.reader []:=by
  refine ⟨rfl,fun b x hx=>by simp at hx,fun b b' l l' hb=>by simp [Ctx.reader] at hb,fun blk hf=>⟨(hs.forb blk hf).1,hno blk⟩,fun b=>by simp [Ctx.reader]⟩
 refine (hc n C.reader cargs hsr (ha C _ hs hargs)).mono ?_
 rintro e' w' ⟨C1,rfl,hext,hs1,y,rfl,hy⟩
 have hk:Keep C.w C1.w none:=⟨hext.size,fun blk hb _=>hext.same blk hb (hno blk),hext.tape,hext.os,hext.output⟩
 refine ⟨C.grow C1.w,rfl,grow_ext hk,grow_SR hs hk,y,rfl,hv C1 _ y hs1 ⟨rfl,fun b l hb hl=>?_⟩ hy⟩
 have hown:C1.owned l.cb:=⟨b,l,hb,hl,rfl⟩
 have hge:C.w.heap.size≤l.cb:=(hext.image _ hown).elim (fun h=>absurd h (hno _)) id
 refine ⟨hs1.lt hb hl,fun hf=>?_,?_⟩
 ·have:=(hs.forb _ hf).1
  omega
 ·rintro ⟨b',l',hb',hl',he⟩
  have:=hs.lt hb' hl'
  omega
def RetR (P:Program) (fn:Func) (v:AV) (al:List (Nat×AV)) (df:List ADef) (h:List ABlk):Prop:=
 ∃ v0 h',ALeave P fn (lst fn.ntmps al) df .returning h (.ret v0) h'∧FreshV h' v0 v
def RetRQ (P:Program) (fn:Func) (v:AV):AX→List (Nat×AV)→List ADef→List ABlk→Prop
 | .ret,al,df,h=>RetR P fn v al df h
 | _,_,_,_=>False
theorem RetR.mk {al:List (Nat×AV)} {h:List ABlk} {fn:Func} {v:AV} {vs:List AV} (hv:resultsV P (lst fn.ntmps al) h fn.results.toList = some vs) (hf:FreshV h (packV vs) v):RetR P fn v al [] h:=⟨packV vs,h,ALeave.ret hv,hf⟩
theorem RetRQ.mk {al:List (Nat×AV)} {h:List ABlk} {fn:Func} {v:AV} {vs:List AV} (hv:resultsV P (lst fn.ntmps al) h fn.results.toList = some vs) (hf:FreshV h (packV vs) v):RetRQ P fn v .ret al [] h:=RetR.mk hv hf
theorem ACall.mirR {f:FuncId} {fn:Func} {c:Code} {args args0:List AV} {v:AV} {h:List ABlk} (k:Nat) (hf:P.funcs[f]? = some fn) (hb:fn.body = some c) (ha:ReadL h args0 args) {al:List (Nat×AV)}
  (hal:args ++ List.replicate (fn.ntmps - args.length) .poison = lst fn.ntmps al) (hx:SX P none c fn.ntmps al [] (List.replicate k .resv) (RetRQ P fn v)):ACall P f args0 h (.ret v) h:=by
 obtain ⟨x,al',df',h2,g1,_,g3⟩:=hx
 cases x <;> simp only [RetRQ] at g3
 obtain ⟨v0,h',g4,g5⟩:=g3
 refine ACall.readsP ha (ACall.of_body (out:=⟨.ret,lst fn.ntmps al',df',h2⟩) (m:=.returning) hf hb ?_ rfl g4) g5
 rw [hal]
 exact AExec.keepFor k rdNone (by simpa using g1)
def slc {α:Type} (xs:List α) (lo hi:Int):Option (List α):=bif decide (0≤lo∧lo≤hi∧hi≤xs.length) then some ((xs.drop lo.toNat).take (hi.toNat - lo.toNat)) else none
end Go.AL
namespace Go.AL
open Go
variable {P:Program}
structure Set' where
 arity:Int
 has:Nat→Bool
def bits (f:Nat→Bool):List AV:=(List.range 64).map fun i=>.bool (f i)
def Set'.cells (s:Set'):List AV:=.int .i64 s.arity :: bits s.has
def Set'.av (s:Set'):AV:=.agg s.cells
def Set'.upd (s:Set') (r:Nat) (v:Bool):Set':={ s with has:=fun j=>bif Nat.beq j r then v else s.has j }
def inr (i:Int) (n:Nat):Option Nat:=bif decide (0≤i∧i < n) then some i.toNat else none
structure Var where
 name:ByteArray
 set:Set'
def Var.av (v:Var):AV:=.agg (.str v.name :: v.set.cells)
structure View where
 sp:Spec
 temp:List Bool
 calls:Int
 inside:Bool
def Spec.cells (s:Spec):List AV:=[.vw 2 (s.sorts.map Sort'.av),.vw 3 (s.fields.map Field.av),.vw 7 (s.preds.map Pred.av),.vw 6 (s.facts.map Fact.av)]
def View.av (v:View):AV:=.agg (v.sp.cells ++ [.vw 1 (v.temp.map AV.bool),.int .i64 v.calls,.bool v.inside])
theorem bits_apart (f:Nat→Bool):ApartL (bits f):=ApartL.map fun _ _=>.bool
theorem Set'.apart (s:Set'):ApartV s.av:=.agg (.cons .int (bits_apart _))
theorem Var.apart (s:Var):ApartV s.av:=.agg (.cons .str (.cons .int (bits_apart _)))
theorem Spec.cells_apart (s:Spec):ApartL s.cells:=.cons (.vw (ApartL.map fun x _=>x.apart)) (.cons (.vw (ApartL.map fun x _=>x.apart)) (.cons (.vw (ApartL.map fun x _=>x.apart)) (.cons (.vw (ApartL.map fun x _=>x.apart)) .nil)))
theorem View.apart (v:View):ApartV v.av:=.agg (ApartL.append v.sp.cells_apart (.cons (.vw (ApartL.map fun _ _=>.bool)) (.cons .int (.cons .bool .nil))))
theorem bits_below (n:Nat) (f:Nat→Bool):belowL n (bits f):=belowL_map fun _=>by simp only [belowV]
theorem Set'.belowN (n:Nat) (s:Set'):belowV n s.av:=by simp only [Set'.av,Set'.cells,belowV,belowL,true_and]; exact bits_below n _
theorem Var.belowN (n:Nat) (s:Var):belowV n s.av:=by simp only [Var.av,Set'.cells,belowV,belowL,true_and]; exact bits_below n _
theorem View.belowN (n:Nat) (v:View):belowV n v.av:=by
 simp only [View.av,Spec.cells,belowV,belowL,List.cons_append,List.nil_append,and_true]
 exact ⟨belowL_map (Sort'.belowN n),belowL_map (Field.belowN n),belowL_map (Pred.belowN n),belowL_map (Fact.belowN n),belowL_map fun _=>by simp only [belowV]⟩
theorem Set'.fresh {h:List ABlk} (s:Set'):FreshV h s.av s.av:=.agg (.cons .int (.map fun _=>.bool))
theorem inrE {i:Int} {n r:Nat} (h:inr i n = some r):0≤i∧i < n∧r = i.toNat∧r < n:=by
 unfold inr at h
 by_cases hc:0≤i∧i < n
 ·simp [hc] at h; exact ⟨hc.1,hc.2,h.symm,by omega⟩
 ·simp [hc] at h
variable {N k big:Nat} {al:List (Nat×AV)} {h:List ABlk} {all:Array Oper} {o:Oper} {os:List Oper}
theorem lightV_idxA {ρ:Operand→AV} {t e:TypeId} {x i:Operand} {len b g q off r:Nat} {n:Int} (hx:ρ x = .ptr b g q off) (hi:ρ i = .int .i64 n)
  (ht:P.underlying t = some (.array len e)) (hs:sizeT P e = some 1) (hrow:(rowAt h b g).isSome = true) (hr:inr n len = some r):lightV P ρ h (.indexAddr t x i) = some (.ptr b g q (off + r)):=by
 obtain ⟨h0,h1,rfl,_⟩:=inrE hr
 simp only [lightV,hx,hi,indexAddrW,indexAddrV,ht,hs]
 rw [if_neg (by omega),if_pos h1]
 simp [hrow]
theorem bits_get {f:Nat→Bool} {r:Nat} (hr:r < 64):(bits f)[r]? = some (.bool (f r)):=by simp [bits,hr]
theorem lightV_bit {ρ:Operand→AV} {t:TypeId} {x:Operand} {b g sz r:Nat} {s:Set'} {n:Int} (hx:ρ x = .ptr b g 0 (1 + r)) (hb:rowAt h b g = some (sz,[s.av])) (hagg:isAggT P t = some false) (hsz:sizeT P t = some 1) (hr:inr n 64 = some r) :
  lightV P ρ h (.load t x) = some (.bool (s.has r)):=by
 obtain ⟨_,_,_,hlt⟩:=inrE hr
 have:s.cells[1 + r]? = some (.bool (s.has r)):=by
  rw [Set'.cells,Nat.add_comm,List.getElem?_cons_succ]; exact bits_get hlt
 simp only [lightV,loadV,hx,hb]
 simp [getPart,hagg,hsz,Set'.av,this,AV.isAgg]
theorem bits_length (f:Nat→Bool):(bits f).length = 64:=by simp [bits]
theorem setSeg_bits {s:Set'} {r:Nat} {v:Bool} (hr:r < 64):setSeg s.cells (1 + r) [.bool v] = (s.upd r v).cells:=by
 have e:∀ (cs:List AV) (i:Nat) (x:AV),i < cs.length→cs.take i ++ [x] ++ cs.drop (i + 1) = cs.set i x:=by
  intro cs i x hi
  rw [List.set_eq_take_append_cons_drop,if_pos hi]
  simp
 have hl:1 + r < s.cells.length:=by simp [Set'.cells,bits_length]; omega
 simp only [setSeg,List.length_singleton]
 rw [e _ _ _ hl]
 refine List.ext_getElem? fun i=>?_
 rw [List.getElem?_set]
 cases i with
 | zero=>rw [if_neg (by omega)]; rfl
 | succ i=>
  simp only [Set'.cells,List.getElem?_cons_succ,List.length_cons,bits_length]
  by_cases hi:i < 64
  ·rw [bits_get hi]
   by_cases he:1 + r = i + 1
   ·have hri:r = i:=by omega
    subst hri
    rw [if_pos he,if_pos (by omega),bits_get hi]
    simp [Set'.upd]
   ·rw [if_neg he,bits_get hi]
    have:Nat.beq i r = false:=by
     cases hb:Nat.beq i r with
     | false=>rfl
     | true=>have:=Nat.eq_of_beq_eq_true hb; omega
    simp [Set'.upd,this]
  ·rw [if_neg (by omega),List.getElem?_eq_none (by simp [bits_length]; omega),List.getElem?_eq_none (by simp [bits_length]; omega)]
theorem heavyV_bit {ρ:Operand→AV} {t:TypeId} {x y:Operand} {b g sz r:Nat} {s:Set'} {n:Int} {v:Bool} (hx:ρ x = .ptr b g 0 (1 + r)) (hy:ρ y = .bool v) (hb:rowAt h b g = some (sz,[s.av])) (hsz:sizeT P t = some 1) (hr:inr n 64 = some r) :
  heavyV P ρ h (.store t x y) = some (.poison,h.set b (.row g sz [(s.upd r v).av])):=by
 obtain ⟨_,_,_,hlt⟩:=inrE hr
 have hfit:1 + r + 1≤s.cells.length:=by simp [Set'.cells,bits_length]; omega
 simp only [heavyV,storeV,hx,hy,hb,hsz]
 simp [cellsV,putPart,solid,Set'.av,hfit,setSeg_bits hlt]
theorem isAgg_osl {b g:Nat} {xs:List AV}:(osl b g xs).isAgg = false:=by cases xs <;> rfl
theorem solid_osl {b g:Nat} {xs:List AV}:solid (osl b g xs) = true:=by cases xs <;> rfl
theorem cells_osl {b g:Nat} {xs:List AV}:cellsV (osl b g xs) = some [osl b g xs]:=by cases xs <;> rfl
theorem lightV_loadC {ρ:Operand→AV} {t:TypeId} {x:Operand} {b g sz off:Nat} {cs:List AV} {v:AV} (hx:ρ x = .ptr b g 0 off) (hb:rowAt h b g = some (sz,[.agg cs])) (hagg:isAggT P t = some false) (hsz:sizeT P t = some 1) (hc:cs[off]? = some v) (hv:v.isAgg = false) :
  lightV P ρ h (.load t x) = some v:=by
 simp only [lightV,loadV,hx,hb]
 simp [getPart,hagg,hsz,hc,hv]
theorem heavyV_storeC {ρ:Operand→AV} {t:TypeId} {x y:Operand} {b g sz off:Nat} {cs vs:List AV} {v:AV} (hx:ρ x = .ptr b g 0 off) (hy:ρ y = v) (hb:rowAt h b g = some (sz,[.agg cs])) (hc:cellsV v = some vs) (hsz:sizeT P t = some vs.length) (hs:vs.all solid = true)
  (hfit:Nat.ble (off + vs.length) cs.length = true):heavyV P ρ h (.store t x y) = some (.poison,h.set b (.row g sz [.agg (setSeg cs off vs)])):=by
 have hfit':=Nat.le_of_ble_eq_true hfit
 simp only [heavyV,storeV,hx,hy,hb,hsz]
 simp [hc,putPart,hs,hfit']
theorem allB {x:AV} {xs:List AV} (h1:solid x = true) (h2:xs.all solid = true):(x :: xs).all solid = true:=by simp [h1,h2]
theorem heavyV_boxO {ρ:Operand→AV} {t:TypeId} {x:Operand} {b g:Nat} {xs:List AV} (hx:ρ x = osl b g xs):heavyV P ρ h (.box t x) = some (.ptr h.length 0 0 0,h ++ [.row 0 1 [osl b g xs]]):=by
 simp [heavyV,boxV,hx,cells_osl]
theorem lightV_load1 {ρ:Operand→AV} {t:TypeId} {x:Operand} {b g b' g' sz:Nat} {xs:List AV} (hx:ρ x = .ptr b g 0 0) (hb:rowAt h b g = some (sz,[osl b' g' xs])) (hagg:isAggT P t = some false) (hsz:sizeT P t = some 1):lightV P ρ h (.load t x) = some (osl b' g' xs):=by
 simp only [lightV,loadV,hx,hb]
 cases xs <;> simp [getPart,hagg,hsz,osl]
theorem heavyV_store1 {ρ:Operand→AV} {t:TypeId} {x y:Operand} {b g b1 g1 b2 g2:Nat} {xs ys:List AV} (hx:ρ x = .ptr b g 0 0) (hy:ρ y = osl b2 g2 ys) (hb:rowAt h b g = some (1,[osl b1 g1 xs])) (hsz:sizeT P t = some 1) :
  heavyV P ρ h (.store t x y) = some (.poison,h.set b (.row g 1 [osl b2 g2 ys])):=by
 simp only [heavyV,storeV,hx,hy,hb,hsz]
 simp only [List.getElem?_cons_zero,cells_osl]
 cases xs <;> cases ys <;> rfl
theorem lightV_idxL {α:Type} {ρ:Operand→AV} {t e:TypeId} {x i:Operand} {sz:Nat} {c:Option Nat} {f:α→AV} {xs:List α} {n:Int} {y:α} (hx:ρ x = .sl (sz + 1) (xs.map f) c) (hi:ρ i = .int .i64 n)
  (ht:P.underlying t = some (.slice e)) (hs:sizeT P e = some (sz + 1)) (hy:idx xs n = some y):lightV P ρ h (.indexAddr t x i) = some (.rptr (f y)):=by
 obtain ⟨h0,hy⟩:=idxE hy
 simp only [lightV,hx,hi,indexAddrW,indexAddrV,ht,hs,List.getElem?_map,hy]
 rw [if_neg (by omega)]
 simp
theorem slcE {α:Type} {xs ys:List α} {lo hi:Int} (h:slc xs lo hi = some ys):(0≤lo∧lo≤hi∧hi≤xs.length)∧ys = (xs.drop lo.toNat).take (hi.toNat - lo.toNat):=by
 unfold slc at h
 by_cases hc:0≤lo∧lo≤hi∧hi≤xs.length
 ·rw [decide_eq_true hc] at h; injection h with h; exact ⟨hc,h.symm⟩
 ·rw [decide_eq_false hc] at h; cases h
theorem lightV_slcH {α:Type} {ρ:Operand→AV} {t e:TypeId} {x hi:Operand} {sz:Nat} {f:α→AV} {xs ys:List α} {n:Int} (hx:ρ x = .vw sz (xs.map f)) (hh:ρ hi = .int .i64 n) (ht:P.underlying t = some (.slice e)) (hs:sizeT P e = some sz)
  (hq:slc xs 0 n = some ys):lightV P ρ h (.slice t x none (some hi) none) = some (.vw sz (ys.map f)):=by
 obtain ⟨hc,rfl⟩:=slcE hq
 have h1:0≤n∧n≤xs.length:=⟨by omega,hc.2.2⟩
 have h2:n.toNat≤xs.length:=by omega
 simp only [lightV,Option.map_some,Option.map_none,hx,hh,sliceW,sliceV,ht,hs,boundsV,boundV,List.length_map,if_pos h1]
 simp [h2]
theorem lightV_slcL {α:Type} {ρ:Operand→AV} {t e:TypeId} {x lo:Operand} {sz:Nat} {f:α→AV} {xs ys:List α} {n:Int} (hx:ρ x = .vw sz (xs.map f)) (hh:ρ lo = .int .i64 n) (ht:P.underlying t = some (.slice e)) (hs:sizeT P e = some sz)
  (hq:slc xs n xs.length = some ys):lightV P ρ h (.slice t x (some lo) none none) = some (.vw sz (ys.map f)):=by
 obtain ⟨hc,rfl⟩:=slcE hq
 have h1:0≤n∧n≤xs.length:=⟨hc.1,by omega⟩
 simp only [lightV,Option.map_some,Option.map_none,hx,hh,sliceW,sliceV,ht,hs,boundsV,boundV,List.length_map,if_pos h1]
 simp
end Go.AL
namespace Go.AL
open Go
def Ev {α:Type} (P:α→Prop) (f:Nat→Option α):Prop:=∃ r,P r∧∃ F0,∀ F,F0≤F→f F = some r
section
variable {α β S X R T:Type} {P:α→Prop} {Q:β→Prop}
theorem Ev.pure {r:α} (h:P r):Ev P (fun _=>some r):=⟨r,h,0,fun _ _=>rfl⟩
theorem Ev.mono {P':α→Prop} {f:Nat→Option α} (h:Ev P f) (hp:∀ r,P r→P' r):Ev P' f:=by
 obtain ⟨r,h1,h2⟩:=h
 exact ⟨r,hp r h1,h2⟩
theorem Ev.bind {f:Nat→Option α} {g:α→Nat→Option β} (hf:Ev P f) (hg:∀ a,P a→Ev Q (g a)):Ev Q (fun F=>(f F).bind (fun a=>g a F)):=by
 obtain ⟨a,ha,F1,h1⟩:=hf
 obtain ⟨b,hb,F2,h2⟩:=hg a ha
 refine ⟨b,hb,max F1 F2,fun F hF=>?_⟩
 show (f F).bind _ = _
 rw [h1 F (by omega)]
 exact h2 F (by omega)
theorem Ev.ite {c:Bool} {f g:Nat→Option α} (h1:c = true→Ev P f) (h2:c = false→Ev P g):Ev P (fun F=>bif c then f F else g F):=by
 cases c with
 | true=>exact h1 rfl
 | false=>exact h2 rfl
theorem Ev.it {c:Bool} {f g:Nat→Option α} (hc:c = true) (h1:Ev P f):Ev P (fun F=>bif c then f F else g F):=by subst hc; exact h1
theorem Ev.if {c:Bool} {f g:Nat→Option α} (hc:c = false) (h1:Ev P g):Ev P (fun F=>bif c then f F else g F):=by subst hc; exact h1
theorem Ev.dec {p:Prop} [Decidable p] {f g:Nat→Option α} (h1:p→Ev P f) (h2:¬ p→Ev P g):Ev P (fun F=>bif decide p then f F else g F):=by
 by_cases h:p
 ·rw [decide_eq_true h]; exact h1 h
 ·rw [decide_eq_false h]; exact h2 h
theorem Ev.dt {p:Prop} [Decidable p] {f g:Nat→Option α} (h:p) (h1:Ev P f):Ev P (fun F=>bif decide p then f F else g F):=by rw [decide_eq_true h]; exact h1
theorem Ev.df {p:Prop} [Decidable p] {f g:Nat→Option α} (h:¬ p) (h1:Ev P g):Ev P (fun F=>bif decide p then f F else g F):=by rw [decide_eq_false h]; exact h1
theorem Ev.idx {l:List α} {i:Int} (h0:0≤i) (h1:i < l.length):Ev (fun y=>l[i.toNat]? = some y) (fun _=>Go.AL.idx l i):=by
 have h2:i.toNat < l.length:=by omega
 refine ⟨l[i.toNat],by simp [h2],0,fun _ _=>?_⟩
 simp [Go.AL.idx,h0,h2]
theorem Ev.idxN {l:List α} {i:Nat} (h:i < l.length):Ev (fun y=>l[i]? = some y) (fun _=>Go.AL.idx l (i:Int)):=(Ev.idx (l:=l) (i:=i) (by omega) (by omega)).mono fun r hr=>by simpa using hr
theorem Ev.app {xs ys:List α} (h:xs.length + ys.length < 1073741824):Ev (fun z=>z = xs ++ ys) (fun _=>Go.AL.app xs ys):=⟨xs ++ ys,rfl,0,fun _ _=>by simp [Go.AL.app,h]⟩
theorem Ev.inr {i:Int} {n:Nat} (h0:0≤i) (h1:i < n):Ev (fun r=>r = i.toNat) (fun _=>Go.AL.inr i n):=⟨i.toNat,rfl,0,fun _ _=>by simp [Go.AL.inr,h0,h1]⟩
theorem w64_id {x:Int} (h1:-9223372036854775808≤x) (h2:x < 9223372036854775808):w64 x = x:=by
 have e:w64 x = (if (true && decide (x % 2 ^ 64 ≥ 2 ^ 63)) = true then x % 2 ^ 64 - 2 ^ 64 else x % 2 ^ 64):=rfl
 rw [e]
 by_cases h0:0≤x
 ·have e2:x % 2 ^ 64 = x:=by omega
  rw [e2]
  simp
  omega
 ·have e2:x % 2 ^ 64 = x + 2 ^ 64:=by omega
  rw [e2]
  simp
  omega
theorem w64_succ {i:Nat} (h:i < 4611686018427387904):w64 ((i:Int) + 1) = ((i + 1:Nat):Int):=by
 rw [w64_id (by omega) (by omega)]
 rfl
theorem w64_rng (x:Int):-9223372036854775808≤w64 x∧w64 x < 9223372036854775808:=by
 have e:w64 x = (if (true && decide (x % 2 ^ 64 ≥ 2 ^ 63)) = true then x % 2 ^ 64 - 2 ^ 64 else x % 2 ^ 64):=rfl
 rw [e]
 by_cases h:x % 2 ^ 64 ≥ 2 ^ 63
 ·rw [if_pos (by simpa using h)]; omega
 ·rw [if_neg (by simpa using h)]; omega
theorem Ev.runs {body:Nat→S→Option (Out S X R)} {s0:S} {P:X ⊕ R→Prop} (Inv:S→Prop) (μ:S→Nat) (hs:Inv s0)
  (hb:∀ s,Inv s→Ev (fun o=>match o with | .next s'=>Inv s'∧μ s' < μ s | .exit x=>P (.inl x) | .ret r=>P (.inr r)) (fun F=>body F s)):Ev P (fun F=>Go.AL.runs (body F) F s0):=by
 have key:∀ (m:Nat) (s:S),μ s < m→Inv s→∃ o,P o∧∃ F0,∀ F,F0≤F→∀ k,m≤k→Go.AL.runs (body F) k s = some o:=by
  intro m
  induction m with
  | zero=>intro s h; omega
  | succ m ih=>
   intro s hm hi
   obtain ⟨o,ho,F1,h1⟩:=hb s hi
   cases o with
   | next s'=>
    obtain ⟨hi',hlt⟩:=ho
    obtain ⟨o,hP,F2,h2⟩:=ih s' (by omega) hi'
    refine ⟨o,hP,max F1 F2,fun F hF k hk=>?_⟩
    obtain ⟨k,rfl⟩:∃ j,k = j + 1:=⟨k - 1,by omega⟩
    simp only [Go.AL.runs,h1 F (by omega)]
    exact h2 F (by omega) k (by omega)
   | exit x=>
    refine ⟨.inl x,ho,F1,fun F hF k hk=>?_⟩
    obtain ⟨k,rfl⟩:∃ j,k = j + 1:=⟨k - 1,by omega⟩
    simp only [Go.AL.runs,h1 F hF]
   | ret r=>
    refine ⟨.inr r,ho,F1,fun F hF k hk=>?_⟩
    obtain ⟨k,rfl⟩:∃ j,k = j + 1:=⟨k - 1,by omega⟩
    simp only [Go.AL.runs,h1 F hF]
 obtain ⟨o,hP,F0,h⟩:=key (μ s0 + 1) s0 (by omega) hs
 exact ⟨o,hP,max F0 (μ s0 + 1),fun F hF=>h F (by omega) F (by omega)⟩
theorem Ev.loop {body:Nat→S→Option (Out S X R)} {s0:S} {P:X ⊕ R→Prop} (n:Nat) (mk:Nat→T→S) (A:Nat→T→Prop) {t0:T} (hs:s0 = mk 0 t0) (h0:A 0 t0)
  (hb:∀ i t,i < n→A i t→Ev (fun o=>match o with | .next s'=>∃ t',s' = mk (i + 1) t'∧A (i + 1) t' | .exit x=>P (.inl x) | .ret r=>P (.inr r)) (fun F=>body F (mk i t)))
  (hx:∀ t,A n t→Ev (fun o=>match o with | .next _=>False | .exit x=>P (.inl x) | .ret r=>P (.inr r)) (fun F=>body F (mk n t))):Ev P (fun F=>Go.AL.runs (body F) F s0):=by
 have key:∀ (m i:Nat) (t:T),i + m = n→A i t→∃ o,P o∧∃ F0,∀ F,F0≤F→∀ k,m < k→Go.AL.runs (body F) k (mk i t) = some o:=by
  intro m
  induction m with
  | zero=>
   intro i t hi hA
   obtain rfl:i = n:=by omega
   obtain ⟨o,ho,F1,h1⟩:=hx t hA
   cases o with
   | next s'=>exact ho.elim
   | exit x=>
    refine ⟨.inl x,ho,F1,fun F hF k hk=>?_⟩
    obtain ⟨k,rfl⟩:∃ j,k = j + 1:=⟨k - 1,by omega⟩
    simp only [Go.AL.runs,h1 F hF]
   | ret r=>
    refine ⟨.inr r,ho,F1,fun F hF k hk=>?_⟩
    obtain ⟨k,rfl⟩:∃ j,k = j + 1:=⟨k - 1,by omega⟩
    simp only [Go.AL.runs,h1 F hF]
  | succ m ih=>
   intro i t hi hA
   obtain ⟨o,ho,F1,h1⟩:=hb i t (by omega) hA
   cases o with
   | next s'=>
    obtain ⟨t',rfl,hA'⟩:=ho
    obtain ⟨o,hP,F2,h2⟩:=ih (i + 1) t' (by omega) hA'
    refine ⟨o,hP,max F1 F2,fun F hF k hk=>?_⟩
    obtain ⟨k,rfl⟩:∃ j,k = j + 1:=⟨k - 1,by omega⟩
    simp only [Go.AL.runs,h1 F (by omega)]
    exact h2 F (by omega) k (by omega)
   | exit x=>
    refine ⟨.inl x,ho,F1,fun F hF k hk=>?_⟩
    obtain ⟨k,rfl⟩:∃ j,k = j + 1:=⟨k - 1,by omega⟩
    simp only [Go.AL.runs,h1 F hF]
   | ret r=>
    refine ⟨.inr r,ho,F1,fun F hF k hk=>?_⟩
    obtain ⟨k,rfl⟩:∃ j,k = j + 1:=⟨k - 1,by omega⟩
    simp only [Go.AL.runs,h1 F hF]
 obtain ⟨o,hP,F0,h⟩:=key n 0 t0 (by omega) h0
 subst hs
 exact ⟨o,hP,max F0 (n + 1),fun F hF=>h F (by omega) F (by omega)⟩
theorem Ev.each {body:Nat→Int→Option (Out Int Unit R)} {P:Unit ⊕ R→Prop} {n:Nat} (hn:n < 4611686018427387904) (A:Nat→Prop) (h0:A 0)
  (hb:∀ i:Nat,i < n→A i→Ev (fun o=>match o with | .next s'=>s' = w64 ((i:Int) + 1)∧A (i + 1) | .exit _=>False | .ret r=>P (.inr r)) (fun F=>body F (i:Int)))
  (hx:A n→P (.inl ())):Ev P (fun F=>Go.AL.runs (fun s=>bif decide (s < (n:Int)) then body F s else some (.exit ())) F 0):=by
 refine Ev.loop (T:=Unit) n (fun i _=>(i:Int)) (fun i _=>A i) (t0:=()) rfl h0 (fun i _ hi hA=>?_) (fun _ hA=>?_)
 ·refine Ev.dt (by omega) ((hb i hi hA).mono fun o ho=>?_)
  cases o with
  | next s'=>exact ⟨(),by rw [ho.1,w64_succ (by omega)],ho.2⟩
  | exit x=>exact ho.elim
  | ret r=>exact ho
 ·exact Ev.df (by omega) (Ev.pure (hx hA))
end
end Go.AL
namespace Go.AL
section
variable {α β:Type} {P:α→Prop}
def OnS {X R:Type} (PX:X→Prop) (PR:R→Prop):X ⊕ R→Prop
 | .inl x=>PX x
 | .inr r=>PR r
theorem Ev.bindS {X R:Type} (PX:X→Prop) (PR:R→Prop) {f:Nat→Option (X ⊕ R)} {g:X ⊕ R→Nat→Option α} (hf:Ev (OnS PX PR) f) (h1:∀ x,PX x→Ev P (g (.inl x))) (h2:∀ r,PR r→Ev P (g (.inr r))) :
  Ev P (fun F=>(f F).bind fun o=>g o F):=by
 refine Ev.bind hf fun o ho=>?_
 cases o with
 | inl x=>exact h1 x ho
 | inr x=>exact h2 x ho
abbrev TT {α:Type}:α→Prop:=fun _=>True
theorem Ev.congr {f g:Nat→Option α} (N:Nat) (h:∀ F,N≤F→f F = g F) (hg:Ev P g):Ev P f:=by
 obtain ⟨r,hr,F0,h0⟩:=hg
 exact ⟨r,hr,max N F0,fun F hF=>by rw [h F (by omega)]; exact h0 F (by omega)⟩
theorem Ev.sidx {s:ByteArray} {i:Int} (h0:0≤i) (h1:i < s.size):Ev (fun _=>True) (fun _=>Go.AL.sidx s i):=by
 have h2:i.toNat < s.size:=by omega
 refine ⟨((s[i.toNat]).toNat:Int),trivial,0,fun _ _=>?_⟩
 ·have:decide (i < 0) = false:=decide_eq_false (by omega)
  simp [Go.AL.sidx,this,h2]
theorem Ev.sadd {a b:ByteArray} (h:a.size + b.size < 9223372036854775808):Ev (fun r=>r = a ++ b) (fun _=>Go.AL.sadd a b):=by
 refine ⟨a ++ b,rfl,0,fun _ _=>?_⟩
 have e:IntKind.i64.max = 9223372036854775807:=rfl
 unfold Go.AL.sadd
 rw [if_neg (by rw [e]; omega)]
end
mutual
def nsz:Node→Nat
 | .mk _ name _ kids _=>1 + name.size + nszL kids
def nszL:List Node→Nat
 | []=>0
 | k :: ks=>nsz k + nszL ks
end
theorem nsz_pos (n:Node):0 < nsz n:=by cases n; simp only [nsz]; omega
theorem nszL_len:∀ l:List Node,l.length≤nszL l
 | []=>Nat.le_refl _
 | k :: ks=>by have:=nszL_len ks; have:=nsz_pos k; simp only [List.length_cons,nszL]; omega
theorem nszL_mem:∀ {l:List Node} {k:Node},k ∈ l→nsz k≤nszL l
 | k0 :: ks,k,h=>by
  simp only [nszL]
  rcases List.mem_cons.1 h with rfl | h
  ·omega
  ·have:=nszL_mem h; omega
theorem nsz_eq (n:Node):nsz n = 1 + n.name.size + nszL n.kids:=by cases n; rfl
theorem nsz_kid {n k:Node} (h:k ∈ n.kids):nsz k < nsz n:=by
 have:=nszL_mem h
 rw [nsz_eq n]; omega
theorem nsz_len (n:Node):n.kids.length < nsz n:=by
 have:=nszL_len n.kids
 rw [nsz_eq n]; omega
def LIM:Nat:=1048576
end Go.AL
namespace Go.AL
open Go
section
variable {P:Program} {t:TypeId} {avs:List AV}
theorem WT.bool_inv (hu:P.underlying t = some .bool) (h:WT P t avs):∃ b,avs = [.bool b]:=by
 cases h with
 | bool h=>exact ⟨_,rfl⟩
 | int h=>rw [hu] at h; cases h
 | str h=>rw [hu] at h; cases h
 | slice h=>rw [hu] at h; cases h
 | struct h=>rw [hu] at h; cases h
 | other h=>unfold plainB at h; rw [hu] at h; cases h
theorem WT.int_inv {k:IntKind} (hu:P.underlying t = some (.int k)) (h:WT P t avs):∃ n,avs = [.int k n]:=by
 cases h with
 | bool h=>rw [hu] at h; cases h
 | int h=>rw [hu] at h; cases h; exact ⟨_,rfl⟩
 | str h=>rw [hu] at h; cases h
 | slice h=>rw [hu] at h; cases h
 | struct h=>rw [hu] at h; cases h
 | other h=>unfold plainB at h; rw [hu] at h; cases h
theorem WT.str_inv (hu:P.underlying t = some .string) (h:WT P t avs):∃ s,avs = [.str s]:=by
 cases h with
 | bool h=>rw [hu] at h; cases h
 | int h=>rw [hu] at h; cases h
 | str h=>exact ⟨_,rfl⟩
 | slice h=>rw [hu] at h; cases h
 | struct h=>rw [hu] at h; cases h
 | other h=>unfold plainB at h; rw [hu] at h; cases h
theorem WT.slice_inv {e:TypeId} (hu:P.underlying t = some (.slice e)) (hp:plainB P t = true) (h:WT P t avs):∃ xs:List (List AV),avs = [.vw (P.cellsOf e) (xs.map (wrapT P e))]∧∀ ys ∈ xs,WT P e ys:=by
 cases h with
 | bool h=>rw [hu] at h; cases h
 | int h=>rw [hu] at h; cases h
 | str h=>rw [hu] at h; cases h
 | slice h hx=>rw [hu] at h; cases h; exact ⟨_,rfl,hx⟩
 | struct h=>rw [hu] at h; cases h
 | other h=>rw [hp] at h; cases h
theorem WT.struct_inv {fs:Array _root_.Go.Field} (hu:P.underlying t = some (.struct fs)) (hp:plainB P t = true) (h:WT P t avs) :
  ∃ parts:List (List AV),avs = parts.flatten∧parts.length = fs.size∧∀ (i:Nat) f p,fs[i]? = some f→parts[i]? = some p→WT P f.type p:=by
 cases h with
 | bool h=>rw [hu] at h; cases h
 | int h=>rw [hu] at h; cases h
 | str h=>rw [hu] at h; cases h
 | slice h=>rw [hu] at h; cases h
 | struct h hl hp=>rw [hu] at h; cases h; exact ⟨_,rfl,hl,hp⟩
 | other h=>rw [hp] at h; cases h
theorem WT.list {X:Type} (cells:X→List AV) (av:X→AV) {e:TypeId} {sz:Nat} (hu:P.underlying t = some (.slice e)) (hp:plainB P t = true) (hsz:P.cellsOf e = sz) (hw:∀ x,wrapT P e (cells x) = av x)
  (hx:∀ ys,avszL ys < avszL avs→WT P e ys→∃ x,ys = cells x) (hav:∀ ys,avsz (wrapT P e ys) = avszL ys ∨ ¬ WT P e ys) (h:WT P t avs):∃ l:List X,avs = [.vw sz (l.map av)]:=by
 obtain ⟨xs,rfl,hxs⟩:=h.slice_inv hu hp
 have hsm:∀ ys ∈ xs,avszL ys < avszL [.vw (P.cellsOf e) (xs.map (wrapT P e))]:=by
  have key:∀ xs:List (List AV),(∀ ys ∈ xs,WT P e ys)→∀ ys ∈ xs,avszL ys≤avszL (xs.map (wrapT P e)):=by
   intro xs
   induction xs with
   | nil=>intro _ ys h; cases h
   | cons z xs ih=>
    intro hz ys h
    have hz0:avsz (wrapT P e z) = avszL z:=(hav z).resolve_right fun hn=>hn (hz z (by simp))
    simp only [List.map_cons,avszL]
    rcases List.mem_cons.1 h with rfl | h
    ·omega
    ·have:=ih (fun ys h=>hz ys (by simp [h])) ys h
     omega
  intro ys hys
  have:=key xs hxs ys hys
  simp only [avszL,avsz]
  omega
 have key:∀ xs:List (List AV),(∀ ys ∈ xs,∃ x,ys = cells x)→∃ l:List X,xs.map (wrapT P e) = l.map av:=by
  intro xs
  induction xs with
  | nil=>intro _; exact ⟨[],rfl⟩
  | cons z xs ih=>
   intro hz
   obtain ⟨x,rfl⟩:=hz z (by simp)
   obtain ⟨l,hl⟩:=ih (fun ys h=>hz ys (by simp [h]))
   exact ⟨x :: l,by rw [List.map_cons,List.map_cons,hw,hl]⟩
 obtain ⟨l,hl⟩:=key xs (fun ys hys=>hx ys (hsm ys hys) (hxs ys hys))
 exact ⟨l,by rw [hl,hsz]⟩
theorem wrap_struct {fs:Array _root_.Go.Field} {e:TypeId} (hu:P.underlying e = some (.struct fs)) (ys:List AV):wrapT P e ys = .agg ys:=by unfold wrapT; rw [hu]
theorem hav_struct {fs:Array _root_.Go.Field} {e:TypeId} (hu:P.underlying e = some (.struct fs)) (ys:List AV):avsz (wrapT P e ys) = avszL ys ∨ ¬ WT P e ys:=by
 left; rw [wrap_struct hu]; simp only [avsz]
end
theorem avsz_one_le {α:Type} {f:α→AV} {l:List α} (h1:∀ x,1≤avsz (f x)):l.length≤avszL (l.map f):=by
 induction l with
 | nil=>simp
 | cons a l ih=>have:=h1 a; simp only [List.map_cons,List.length_cons,avszL]; omega
theorem avsz_mem {α:Type} {f:α→AV} {l:List α} {x:α} (h:x ∈ l):avsz (f x)≤avszL (l.map f):=by
 induction l with
 | nil=>cases h
 | cons a l ih=>
  simp only [List.map_cons,avszL]
  rcases List.mem_cons.1 h with rfl | h
  ·omega
  ·have:=ih h; omega
theorem avsz_ints (l:List Int):l.length≤avszL (ints l):=avsz_one_le (f:=AV.int .i64) fun x=>by simp only [avsz]; omega
theorem Rel.avsz_le (r:Rel):r.tuples.length + 1≤avsz r.av:=by
 have:=avsz_ints r.tuples
 simp only [Rel.av,Rel.cells,avsz,avszL]
 omega
mutual
theorem nsz_le:∀ n:Node,nsz n≤avsz n.av
 | .mk op name n kids pos=>by
  have:=nszL_le kids
  simp only [Node.av,nsz,avsz,avszL]
  omega
theorem nszL_le:∀ l:List Node,nszL l≤avszL (navs l)
 | []=>by simp only [nszL,navs,avszL]; omega
 | k :: ks=>by
  have:=nsz_le k
  have:=nszL_le ks
  simp only [nszL,navs,avszL]
  omega
end
theorem Node.cells_sz (n:Node):avszL n.cells = avsz n.av:=by rw [Node.av_eq]; simp only [avsz]
end Go.AL
namespace Go.AL
open Go
variable {P:Program}
def foOf (masks:List Nat) (B:Nat):Nat→Nat
 | 0=>0
 | n + 1=>bif B.testBit n then foOf masks B n ||| masks.getD n 0 else foOf masks B n
theorem foOf_bit {masks:List Nat} {B j:Nat}:∀ {n:Nat},(foOf masks B n).testBit j = true↔∃ k,k < n∧B.testBit k = true∧(masks.getD k 0).testBit j = true
 | 0=>by simp [foOf]
 | n + 1=>by
  simp only [foOf]
  cases hb:B.testBit n with
  | false=>
   simp only [cond_false]
   rw [foOf_bit]
   constructor
   ·rintro ⟨k,h1,h2⟩; exact ⟨k,by omega,h2⟩
   ·rintro ⟨k,h1,h2,h3⟩
    have:k ≠ n:=fun e=>by subst e; rw [hb] at h2; cases h2
    exact ⟨k,by omega,h2,h3⟩
  | true=>
   simp only [cond_true]
   rw [Nat.testBit_or,Bool.or_eq_true,foOf_bit]
   constructor
   ·rintro (⟨k,h1,h2⟩ | h1)
    ·exact ⟨k,by omega,h2⟩
    ·exact ⟨n,by omega,hb,h1⟩
   ·rintro ⟨k,h1,h2,h3⟩
    by_cases hk:k = n
    ·subst hk; exact .inr h3
    ·exact .inl ⟨k,by omega,h2,h3⟩
def alw (n:Nat) (masks:List Nat) (big i B:Nat):Bool:=!(B.testBit i) && !((foOf masks B n).testBit i) && Nat.beq ((masks.getD i 0 &&& big) &&& B) (masks.getD i 0 &&& big)
def Sts:=List (Nat×List ABlk)
def eachS (n:Nat) (masks:List Nat) (big i:Nat) (p:Nat→List ABlk→Prop):List (Nat×List ABlk)→Prop
 | []=>True
 | (B,h) :: l=>(match alw n masks big i B with
  | true=>p B h
  | false=>True)∧eachS n masks big i p l
theorem eachS_mem {n big i:Nat} {masks:List Nat} {p:Nat→List ABlk→Prop}:∀ {l:List (Nat×List ABlk)},eachS n masks big i p l→∀ s ∈ l,alw n masks big i s.1 = true→p s.1 s.2
 | [],_,s,hs,_=>by cases hs
 | t :: l,h,s,hs,ha=>by
  rcases List.mem_cons.1 hs with rfl | hs
  ·have:=h.1
   rw [ha] at this
   exact this
  ·exact eachS_mem h.2 s hs ha
theorem eachS_mono {n big i:Nat} {masks:List Nat} {p q:Nat→List ABlk→Prop} (hpq:∀ B h,p B h→q B h):∀ {l:List (Nat×List ABlk)},eachS n masks big i p l→eachS n masks big i q l
 | [],h=>h
 | t :: l,h=>by
  refine ⟨?_,eachS_mono hpq h.2⟩
  have:=h.1
  split at this
  ·exact hpq _ _ this
  ·trivial
def OpAt (P:Program) (St:List (Nat×List ABlk)) (n:Nat) (masks:List Nat) (big i:Nat) (o:Oper) (ρ:Operand→AV) (v:AV):Prop:=
 eachS n masks big i (fun B h=>bif big.testBit i then ∃ h',AStep P none o ρ [] h v [] h'∧(B ||| 2 ^ i,h') ∈ St else AStep P none o ρ [] h v [] h) St
def GSteps (P:Program) (St:List (Nat×List ABlk)) (all:Array Oper) (n:Nat) (masks:List Nat) (big N:Nat) (al':List (Nat×AV)):Nat→List Oper→List AV→List (Nat×AV)→Prop
 | _,[],[],al=>al' = al
 | k,o :: os,v :: vs,al=>fitsN N all o = true∧((wantedA all al o = some true∧OpAt P St n masks big k o (mask o.op (aval (lst N al))) v) ∨
   (wantedA all al o = some false∧v = undefV∧big.testBit k = false))∧GSteps P St all n masks big N al' (k + 1) os vs (putA al o.dst v)
 | _,_,_,_=>False
variable {St:List (Nat×List ABlk)} {N n:Nat} {masks:List Nat} {al al':List (Nat×AV)} {h h':List ABlk} {all ops:Array Oper} {o:Oper} {os:List Oper} {vs:List AV} {big:Nat}
theorem GSteps.length:∀ {os:List Oper} {vs:List AV} {k:Nat} {al:List (Nat×AV)},GSteps P St all n masks big N al' k os vs al→vs.length = os.length
 | [],[],_,_,_=>rfl
 | _ :: _,_ :: _,_,_,hp=>by have:=GSteps.length hp.2.2; simp [this]
 | [],_ :: _,_,_,hp=>hp.elim
 | _ :: _,[],_,_,hp=>hp.elim
def GAt (P:Program) (St:List (Nat×List ABlk)) (n:Nat) (masks:List Nat) (ops:Array Oper) (env:List AV) (va:Nat→AV) (big i:Nat) (o:Oper):Prop:=
 (wantedV ops (enOf ops env va i) o = some true∧OpAt P St n masks big i o (mask o.op (aval (enOf ops env va i))) (va i)) ∨ (wantedV ops (enOf ops env va i) o = some false∧va i = undefV∧big.testBit i = false)
theorem GSteps.at {va:Nat→AV} {al0:List (Nat×AV)}:∀ {os:List Oper} {vs:List AV} {al:List (Nat×AV)} {k:Nat},GSteps P St ops n masks big N al' k os vs al→ops.toList.drop k = os →
  enOf ops (lst N al0) va k = lst N al→(∀ i v,vs[i]? = some v→va (k + i) = v) →
  (∀ i o,os[i]? = some o→GAt P St n masks ops (lst N al0) va big (k + i) o)∧enOf ops (lst N al0) va (k + os.length) = lst N al'
 | [],[],al,k,hp,_,he,_=>by
  simp only [GSteps] at hp
  subst hp
  exact ⟨fun i o ho=>by simp at ho,by simpa using he⟩
 | o :: os,v :: vs,al,k,hp,hd,he,hv=>by
  obtain ⟨hf,hst,hp⟩:=hp
  obtain ⟨ho,hd'⟩:=drop_cons hd
  have hva:=hv 0 v rfl
  simp only [Nat.add_zero] at hva
  have hf':=hf
  simp only [fitsN,Bool.and_eq_true] at hf'
  have he':enOf ops (lst N al0) va (k + 1) = lst N (putA al o.dst v):=by
   simp only [enOf,ho,he,hva]
   exact lst_put hf'.1.1
  obtain ⟨g1,g2⟩:=GSteps.at hp hd' he' (fun i v' hi=>by
   rw [show k + 1 + i = k + (i + 1) by omega]
   exact hv (i + 1) v' (by simpa using hi))
  refine ⟨fun i o' ho'=>?_,?_⟩
  ·cases i with
   | zero=>
    simp at ho'
    subst ho'
    simp only [Nat.add_zero,GAt]
    rw [he,hva]
    rcases hst with ⟨q1,q2⟩ | ⟨q1,q2,q3⟩
    ·exact .inl ⟨wantedA_ok hf'.2 q1,q2⟩
    ·exact .inr ⟨wantedA_ok hf'.2 q1,q2,q3⟩
   | succ i=>
    rw [show k + (i + 1) = k + 1 + i by omega]
    exact g1 i o' (by simpa using ho')
  ·rw [List.length_cons,show k + (os.length + 1) = k + 1 + os.length by omega]
   exact g2
 | [],_ :: _,_,_,hp,_,_,_=>hp.elim
 | _ :: _,[],_,_,hp,_,_,_=>hp.elim
def missing (n B:Nat):Nat:=(List.range n).countP fun i=>!B.testBit i
theorem missing_lt {n B i:Nat} (hi:i < n) (hb:B.testBit i = false):missing n (B ||| 2 ^ i) < missing n B:=by
 unfold missing
 have h1:(List.range n).countP (fun j=>!(B ||| 2 ^ i).testBit j) + 1≤(List.range n).countP fun j=>!B.testBit j:=by
  have hmem:i ∈ List.range n:=by simpa using hi
  obtain ⟨l1,l2,hl⟩:=List.append_of_mem hmem
  rw [hl]
  simp only [List.countP_append,List.countP_cons]
  have e1:∀ l:List Nat,l.countP (fun j=>!(B ||| 2 ^ i).testBit j)≤l.countP (fun j=>!B.testBit j):=fun l=>List.countP_mono_left fun j _ hj=>by
   rw [Nat.testBit_or] at hj
   simp only [Bool.not_eq_true',Bool.or_eq_false_iff] at hj
   simp [hj.1]
  have a1:=e1 l1
  have a2:=e1 l2
  have hb2:(B ||| 2 ^ i).testBit i = true:=by rw [Nat.testBit_or]; simp
  simp only [hb,hb2,Bool.not_false,Bool.not_true,if_true,Bool.false_eq_true,if_false]
  omega
 omega
theorem drawG_to {env:List AV} {va:Nat→AV} {hfin:List ABlk} (hk:DrawOk ops fun i=>masks.getD i 0) (hfinal:∀ s ∈ St,Nat.beq (big &&& s.1) big = true→s.2 = hfin) (hbig:∀ i,big.testBit i = true→i < ops.size)
  (hat:∀ i o,ops[i]? = some o→GAt P St ops.size masks ops env va big i o) :
  ∀ (m B:Nat) (h:List ABlk),missing ops.size B = m→(∀ j,B.testBit j = true→j < ops.size)→(B,h) ∈ St→DrawTo P none ops (fun i=>masks.getD i 0) env va big ⟨.normal,enOf ops env va ops.size,[],hfin⟩ B (foOf masks B ops.size) [] h:=by
 intro m
 induction m using Nat.strongRecOn with
 | ind m ihm=>
  intro B h hm hBn hmem
  have halw:∀ i,(foOf masks B ops.size).testBit i = false→B.testBit i = false→sub (masks.getD i 0 &&& big) B→alw ops.size masks big i B = true:=by
   intro i h1 h2 h3
   simp only [alw,h1,h2,Bool.not_false,Bool.true_and]
   have:masks.getD i 0 &&& big &&& B = masks.getD i 0 &&& big:=by
    apply Nat.eq_of_testBit_eq
    intro j
    rw [Nat.testBit_and]
    cases hj:(masks.getD i 0 &&& big).testBit j with
    | false=>rfl
    | true=>rw [h3 j hj]; rfl
   rw [this]
   exact Nat.beq_refl _
  have hgo:∀ i o,ops[i]? = some o→big.testBit i = true→(foOf masks B ops.size).testBit i = false→B.testBit i = false→sub (masks.getD i 0 &&& big) B →
    ∃ h',AStep P none o (mask o.op (aval (enOf ops env va i))) [] h (va i) [] h'∧(B ||| 2 ^ i,h') ∈ St:=by
   intro i o ho hb hfo hB hsub
   rcases hat i o ho with ⟨_,q2⟩ | ⟨_,_,q3⟩
   ·have:=eachS_mem q2 (B,h) hmem (halw i hfo hB hsub)
    simpa [hb] using this
   ·rw [hb] at q3; cases q3
  have hex:∀ i,∃ h',∀ o,ops[i]? = some o→big.testBit i = true→(foOf masks B ops.size).testBit i = false→B.testBit i = false→sub (masks.getD i 0 &&& big) B →
    AStep P none o (mask o.op (aval (enOf ops env va i))) [] h (va i) [] h'∧(B ||| 2 ^ i,h') ∈ St:=by
   intro i
   by_cases hc:∃ o,ops[i]? = some o∧big.testBit i = true∧(foOf masks B ops.size).testBit i = false∧B.testBit i = false∧sub (masks.getD i 0 &&& big) B
   ·obtain ⟨o,ho,q1,q2,q3,q4⟩:=hc
    obtain ⟨h',q5⟩:=hgo i o ho q1 q2 q3 q4
    refine ⟨h',fun o2 ho2 _ _ _ _=>?_⟩
    rw [ho] at ho2; injection ho2 with ho2; subst ho2
    exact q5
   ·exact ⟨[],fun o ho q1 q2 q3 q4=>absurd ⟨o,ho,q1,q2,q3,q4⟩ hc⟩
  obtain ⟨hn,hhn⟩:=Classical.axiomOfChoice hex
  refine DrawTo.node (fun _=>false) (fun _=>[]) hn (fun _=>.poison) rdNone ?_ ?_ ?_ ?_ ?_ ?_
  ·intro i o ho _ _ _
   rcases hat i o ho with ⟨q1,_⟩ | ⟨q1,q2,q3⟩
   ·exact ⟨true,q1,fun e=>by cases e⟩
   ·exact ⟨false,q1,fun _=>⟨q2,q3⟩⟩
  ·intro i o ho hb hfo hB hsub hw
   rcases hat i o ho with ⟨_,q2⟩ | ⟨q1,_⟩
   ·have:=eachS_mem q2 (B,h) hmem (halw i hfo hB hsub)
    simpa [hb] using this
   ·rw [hw] at q1; injection q1 with q1; cases q1
  ·intro i o _ _ _ _ _ hpan; cases hpan
  ·intro i o ho hb hfo hB hsub _
   exact ⟨(hhn i o ho hb hfo hB hsub).1,rdNone⟩
  ·intro i o ho hb hfo hB hsub _
   have hi:i < ops.size:=(Array.getElem?_eq_some_iff.1 ho).1
   have e:foOf masks B ops.size ||| masks.getD i 0 = foOf masks (B ||| 2 ^ i) ops.size:=by
    apply Nat.eq_of_testBit_eq
    intro j
    rw [Bool.eq_iff_iff,Nat.testBit_or,Bool.or_eq_true,foOf_bit,foOf_bit]
    constructor
    ·rintro (⟨k,k1,k2,k3⟩ | h1)
     ·exact ⟨k,k1,by rw [Nat.testBit_or,k2]; rfl,k3⟩
     ·exact ⟨i,hi,by rw [Nat.testBit_or]; simp,h1⟩
    ·rintro ⟨k,k1,k2,k3⟩
     rw [Nat.testBit_or,Bool.or_eq_true,Nat.testBit_two_pow,decide_eq_true_eq] at k2
     rcases k2 with k2 | rfl
     ·exact .inl ⟨k,k1,k2,k3⟩
     ·exact .inr k3
   rw [e]
   refine ihm _ (by rw [← hm]; exact missing_lt hi hB) _ _ rfl ?_ (hhn i o ho hb hfo hB hsub).2
   intro j hj
   rw [Nat.testBit_or,Bool.or_eq_true,Nat.testBit_two_pow,decide_eq_true_eq] at hj
   rcases hj with hj | rfl
   ·exact hBn j hj
   ·exact hi
  ·intro hall
   have:Nat.beq (big &&& B) big = true:=by
    have:big &&& B = big:=by
     apply Nat.eq_of_testBit_eq
     intro j
     rw [Nat.testBit_and]
     cases hj:big.testBit j with
     | false=>rfl
     | true=>
      have hjn:=hbig j hj
      rw [hall j ops[j] (by simp [hjn]) hj]; rfl
    rw [this]; exact Nat.beq_refl _
   have:=hfinal (B,h) hmem this
   simp only at this
   rw [this]
def GO (P:Program) (St:List (Nat×List ABlk)) (all:Array Oper) (n:Nat) (masks:List Nat) (big k:Nat) (os:List Oper) (N:Nat) (al:List (Nat×AV)) (Q:List (Nat×AV)→Prop):Prop:=
 ∃ vs al',GSteps P St all n masks big N al' k os vs al∧Q al'
variable {k:Nat} {QA:List (Nat×AV)→Prop}
theorem GO.nil (hq:QA al):GO P St all n masks big k [] N al QA:=⟨[],al,rfl,hq⟩
theorem GO.step {v:AV} (hf:fitsN N all o = true) (hw:wantedA all al o = some true) (hs:OpAt P St n masks big k o (mask o.op (aval (lst N al))) v) (h2:GO P St all n masks big (k + 1) os N (putA al o.dst v) QA):GO P St all n masks big k (o :: os) N al QA:=by
 obtain ⟨vs,al',g1,g2⟩:=h2
 exact ⟨v :: vs,al',⟨hf,.inl ⟨hw,hs⟩,g1⟩,g2⟩
theorem GO.skip (hf:fitsN N all o = true) (hw:wantedA all al o = some false) (hb:big.testBit k = false) (h2:GO P St all n masks big (k + 1) os N (putA al o.dst undefV) QA):GO P St all n masks big k (o :: os) N al QA:=by
 obtain ⟨vs,al',g1,g2⟩:=h2
 exact ⟨undefV :: vs,al',⟨hf,.inr ⟨hw,rfl,hb⟩,g1⟩,g2⟩
theorem GO.light {v:AV} (hf:fitsN N all o = true) (hw:wantedA all al o = some true) (hb:big.testBit k = false) (hl:eachS n masks big k (fun _ h=>lightV P (avA al) h o.op = some v) St) (h2:GO P St all n masks big (k + 1) os N (putA al o.dst v) QA) :
  GO P St all n masks big k (o :: os) N al QA:=by
 have hf':=hf
 simp only [fitsN,Bool.and_eq_true] at hf'
 refine GO.step hf hw (eachS_mono (fun B h hl=>?_) hl) h2
 rw [hb]
 exact AStep.light (by rw [lightV_congr (mask_avA hf'.1.2)]; exact hl)
theorem GO.heavy {v:AV} (hf:fitsN N all o = true) (hw:wantedA all al o = some true) (hb:big.testBit k = true) (hl:eachS n masks big k (fun B h=>∃ h',heavyV P (avA al) h o.op = some (v,h')∧(B ||| 2 ^ k,h') ∈ St) St) (h2:GO P St all n masks big (k + 1) os N (putA al o.dst v) QA) :
  GO P St all n masks big k (o :: os) N al QA:=by
 have hf':=hf
 simp only [fitsN,Bool.and_eq_true] at hf'
 refine GO.step hf hw (eachS_mono (fun B h hl=>?_) hl) h2
 rw [hb]
 obtain ⟨h',h1,h3⟩:=hl
 exact ⟨h',AStep.heavy (by rw [heavyV_congr (mask_avA hf'.1.2)]; exact h1),h3⟩
theorem GO.heavy0 {v:AV} (hf:fitsN N all o = true) (hw:wantedA all al o = some true) (hb:big.testBit k = false) (hl:eachS n masks big k (fun _ h=>heavyV P (avA al) h o.op = some (v,h)) St) (h2:GO P St all n masks big (k + 1) os N (putA al o.dst v) QA) :
  GO P St all n masks big k (o :: os) N al QA:=by
 have hf':=hf
 simp only [fitsN,Bool.and_eq_true] at hf'
 refine GO.step hf hw (eachS_mono (fun B h hl=>?_) hl) h2
 rw [hb]
 exact AStep.heavy (by rw [heavyV_congr (mask_avA hf'.1.2)]; exact hl)
theorem GO.fill {v:AV} {b:Nat} (hf:fitsN N all o = true) (hw:wantedA all al o = some true) (hb:big.testBit k = true) (hl:eachS n masks big k (fun B h=>∃ h',resvV P b (avA al) h o.op = some (v,h')∧(B ||| 2 ^ k,h') ∈ St) St) (h2:GO P St all n masks big (k + 1) os N (putA al o.dst v) QA) :
  GO P St all n masks big k (o :: os) N al QA:=by
 have hf':=hf
 simp only [fitsN,Bool.and_eq_true] at hf'
 refine GO.step hf hw (eachS_mono (fun B h hl=>?_) hl) h2
 rw [hb]
 obtain ⟨h',h1,h3⟩:=hl
 exact ⟨h',AStep.fill (b:=b) (by rw [resvV_congr (mask_avA hf'.1.2)]; exact h1),h3⟩
theorem GO.call {c:Call} {f:FuncId} {args:List AV} {v:AV} (hf:fitsN N all o = true) (hw:wantedA all al o = some true) (hb:big.testBit k = false) (ho:o.op = .call c) (hc:calleeV (avA al) c = some (f,args)) (hcal:callable P f = true)
  (hcall:eachS n masks big k (fun _ h=>ACall P f args h (.ret v) h) St) (h2:GO P St all n masks big (k + 1) os N (putA al o.dst v) QA):GO P St all n masks big k (o :: os) N al QA:=by
 have hf':=hf
 simp only [fitsN,Bool.and_eq_true] at hf'
 have hx:=mask_avA (al:=al) hf'.1.2
 refine GO.step hf hw (eachS_mono (fun B h hl=>?_) hcall) h2
 rw [hb]
 rw [ho] at hx
 show AStep P none o (mask o.op (aval (lst N al))) [] h v [] h
 rw [ho]
 exact AStep.call ho (by rw [calleeV_congr hx]; exact hc) hcal hl
theorem GO.splitM {α:Type} {e:Bool} {A B res:α} (hf:fitsN N all o = true) (hw:wantedA all al o = some true) (hb:big.testBit k = false) (hl:eachS n masks big k (fun _ h=>lightV P (avA al) h o.op = some (.bool e)) St)
  (hm:(bif e then A else B) = res) (h1:A = res→GO P St all n masks big (k + 1) os N (putA al o.dst (.bool true)) QA) (h2:B = res→GO P St all n masks big (k + 1) os N (putA al o.dst (.bool false)) QA):GO P St all n masks big k (o :: os) N al QA:=by
 cases e with
 | true=>exact GO.light hf hw hb hl (h1 hm)
 | false=>exact GO.light hf hw hb hl (h2 hm)
def finalB (big:Nat) (hfin:List ABlk):List (Nat×List ABlk)→Prop
 | []=>True
 | (B,h) :: l=>(match Nat.beq (big &&& B) big with
  | true=>h = hfin
  | false=>True)∧finalB big hfin l
theorem finalB_mem {hfin:List ABlk}:∀ {l:List (Nat×List ABlk)},finalB big hfin l→∀ s ∈ l,Nat.beq (big &&& s.1) big = true→s.2 = hfin
 | [],_,s,hs,_=>by cases hs
 | t :: l,hl,s,hs,hb=>by
  rcases List.mem_cons.1 hs with rfl | hs
  ·have:=hl.1
   rw [hb] at this
   exact this
  ·exact finalB_mem hl.2 s hs hb
theorem SX.drawG {id:Nat} {Q:AX→List (Nat×AV)→List ADef→List ABlk→Prop} (big r:Nat) (St:List (Nat×List ABlk)) (hfin:List ABlk) (hm:P.follows .mixedOrders = true) (hok:drawOkB ops.toList (masksOf ops.toList []) = true) (hlt:Nat.blt big (2 ^ ops.size) = true)
  (h0:(0,h ++ List.replicate r .resv) ∈ St) (hfi:finalB big hfin St)
  (hp:GO P St ops ops.size (masksOf ops.toList []) big 0 ops.toList N al fun al'=>Q .normal al' [] hfin):SX P none (.region id ops true) N al [] h Q:=by
 obtain ⟨vs,al',hp,hq⟩:=hp
 have hlen:=hp.length
 obtain ⟨g1,g2⟩:=hp.at (va:=fun i=>vs.getD i .poison) (al0:=al) (by simp) rfl (fun i v hi=>by simp [List.getD,hi])
 simp only [Nat.zero_add,Array.length_toList] at g1 g2
 refine ⟨.normal,al',[],hfin,?_,rdNone,hq⟩
 refine AExec.keepFor r rdNone ?_
 have hbig:∀ i,big.testBit i = true→i < ops.size:=fun i hi=>by
  rcases Nat.lt_or_ge i ops.size with h | h
  ·exact h
  ·have h1:big < 2 ^ ops.size:=by simpa using hlt
   have:big < 2 ^ i:=Nat.lt_of_lt_of_le h1 (Nat.pow_le_pow_right (by omega) h)
   rw [Nat.testBit_lt_two_pow this] at hi; cases hi
 have:=drawG_to (P:=P) (St:=St) (hfin:=hfin) (env:=lst N al) (va:=fun i=>vs.getD i .poison) (drawOkB_ok hok) (finalB_mem hfi) hbig (fun i o ho=>g1 i o (by simpa using ho)) _ 0 _ rfl (by simp) h0
 have e0:foOf (masksOf ops.toList []) 0 ops.size = 0:=by
  apply Nat.eq_of_testBit_eq
  intro j
  rw [Nat.zero_testBit,Bool.eq_false_iff]
  intro hj
  rw [foOf_bit] at hj
  obtain ⟨k,_,hk,_⟩:=hj
  simp at hk
 rw [e0,g2] at this
 exact AExec.draw hm (drawOkB_ok hok) this
end Go.AL
namespace Go.AL
open Go
variable {P:Program}
def osl0 (b sz:Nat):List AV→AV
 | []=>.sl sz [] (some 0)
 | x :: xs=>.hsl b 0 0 (x :: xs).length none
def gen2 {α:Type}:List α→Nat
 | []=>0
 | _ :: _=>1
theorem osl0_ne {b sz:Nat} {xs:List AV} (h:xs ≠ []):osl0 b sz xs = .hsl b 0 0 xs.length none:=by
 cases xs with
 | nil=>exact absurd rfl h
 | cons x xs=>rfl
theorem gen2_ne {α:Type} {xs:List α} (h:xs ≠ []):gen2 xs = 1:=by
 cases xs with
 | nil=>exact absurd rfl h
 | cons x xs=>rfl
theorem append_fill2 {C:Ctx} {h:List ABlk} (hs:SR C h) {b:Nat} (hb:h[b]? = some .resv) {ats:Array TypeId} {ty:TypeId} {E:ElemT} (hE:(ats[0]?).bind (elemT P) = some E) (hp:plainArg P ats = true) {x:AV} {ys:List AV}
  (hys:contentV h E.size x = some ys) (hne:ys.length ≠ 0) (hg:growOk E ys.length = true) {sv xv:Value} (hsv:VR C (.sl E.size [] (some 0)) sv) (hxv:VR C x xv) :
  ∃ C' v',(Builtin.append_ ats ty #[sv,xv]).run P C.w = .ok v' C'.w∧Ext C C'∧SR C' (h.set b (.row 0 E.size ys))∧VR C' (.hsl b 0 0 ys.length none) v':=by
 obtain ⟨st,hat,hE⟩:=Option.bind_eq_some_iff.1 hE
 obtain ⟨ht,hsz,hpos,⟨i,hi,hib⟩,hbpos,z,zv,hz,hzr,hzs,_⟩:=elemT_spec hE
 obtain ⟨xa,xc,xvs,rfl,hxc,hxl,hxss,hxlen,hxfirst⟩:=contentV_sound (P:=P) hs hys hxv
 obtain ⟨sa,sc,svs,rfl,_,hsl,_,_,hsfirst⟩:=contentV_sound (P:=P) (size:=E.size) (x:=.sl E.size [] (some 0)) (xs:=[]) hs (by simp [contentV]) hsv
 have hsc:sc = 0:=by
  simp only [VR] at hsv
  obtain ⟨_,c,_,he,_,hcap,_⟩:=hsv
  injection he with _ _ hc
  rw [hc]; exact hcap 0 rfl
 subst hsc
 have hsv0:svs = []:=by simpa only [VRL] using hsl
 subst hsv0
 have hres:C.res b:=(hs.res b).2 hb
 have hl2:=hxl.length
 have hrl:=rowCells_length xvs hxss
 simp only [growOk,Bool.and_eq_true,decide_eq_true_eq] at hg
 have hbd:=hg.2
 rw [← hib] at hbd
 have hrun:=run_append_grow (P:=P) (w:=C.w) (ty:=ty) (z:=zv) (size:=E.size) (sLen:=0) (sCap:=0) (n:=ys.length) (base:=sa) (old:=#[]) hat ht hsz hi (hzr _) hp (hxlen _) (hxfirst (drewTo C.w (C.w.drawn + 1)) rfl) (by omega)
  (by simpa [rowCells] using hsfirst (drewTo C.w (C.w.drawn + 1)) rfl) (by omega) (by simpa using hbd) (by omega)
 have hnc:0 + ys.length≤tapeCap C.w (0 + ys.length) 0 E.e:=Nat.le_add_right _ _
 have hd:=Keep.drew C.w (C.w.drawn + 1)
 have hnn:=Nat.mul_le_mul_right E.size hnc
 obtain ⟨g1,g2,_⟩:=fill_row (C:=C) (sz:=E.size) (xs:=ys) (vs:=xvs) (e:=E.e) (w:=drewTo C.w (C.w.drawn + 1)) hs hres hd (Nat.le_refl _) hpos
  (arr:=#[] ++ (rowCells xvs).toArray ++ Builtin.zeroCells zv.cells (tapeCap C.w (0 + ys.length) 0 E.e - (0 + ys.length))) (by
   simp only [Array.size_append,List.size_toArray,hrl,zeroCells_size,hzs,← hl2]
   omega) hxss (by
   intro k hk
   rw [← Array.getElem?_toList]
   simp only [Array.toList_append,List.nil_append]
   rw [List.getElem?_append_left (by simpa using hk)]
   simp [hk]) hxl
 refine ⟨_,_,hrun,g1,g2,?_⟩
 simp only [VR]
 refine ⟨⟨?_,fun hr=>hr.2 rfl⟩,_,tapeCap C.w (0 + ys.length) 0 E.e,by rw [Nat.zero_add],by omega,by simp,fun l' hl'=>?_⟩
 ·show b < C.n
  rw [← hs.len]
  exact (List.getElem?_eq_some_iff.1 hb).1
 ·simp only [Ctx.fill,if_true] at hl'
  injection hl' with hl'
  subst hl'
  refine ⟨Nat.zero_le _,fun _=>⟨fun _=>by simp [drewTo],?_⟩⟩
  simp only [Array.size_append,List.size_toArray,hrl,zeroCells_size,hzs,← hl2,Nat.zero_add,List.size_toArray,List.length_nil]
  rw [← Nat.add_mul]
  apply Nat.mul_le_mul_right
  omega
variable {rd:Option Nat} {o:Oper} {ρ:Operand→AV} {df:List ADef} {h:List ABlk} {args:Array Operand} {ats:Array TypeId} {s x:Operand} {b:Nat} {xs ys:List AV} {E:ElemT}
theorem AStep.appA (ho:o.op = .call { callee:=.builtin .append,args:=args,argTypes:=ats })
  (hargs:args.toList = [s,x]) (hs:ρ s = .sl E.size [] (some 0)) (hb:h[b]? = some .resv) (hE:(ats[0]?).bind (elemT P) = some E) (hp:plainArg P ats = true) (hys:contentV h E.size (ρ x) = some ys)
  (hg:growOk E ys.length = true):AStep P rd o ρ df h (osl0 b E.size ys) df (h.set b (oblk E.size 0 ys)):=by
 by_cases hy:ys = []
 ·subst hy
  have hset:h.set b (oblk E.size 0 []) = h:=by
   obtain ⟨hlt,he⟩:=List.getElem?_eq_some_iff.1 hb
   show h.set b .resv = h
   rw [← he]; exact List.set_getElem_self hlt
  rw [hset]
  refine AStep.heavy ?_
  rw [ho]
  have hc0:contentV h E.size (.sl E.size [] (some 0)) = some []:=by simp [contentV]
  simp only [heavyV,hargs,appendV,hE,hp,hys,hs,hc0]
  simp [osl0]
 ·have hne:ys.length ≠ 0:=fun e=>hy (List.eq_nil_of_length_eq_zero e)
  rw [osl0_ne hy,oblk_ne hy]
  obtain ⟨dst,op,ty,pos,after,guard⟩:=o
  simp only at ho
  subst ho
  refine AStep.of_run (fun c e=>by cases e) fun C σ hsr hσ=>?_
  have:=list_two hargs; subst this
  have hsv:=hσ s
  rw [hs] at hsv
  obtain ⟨C',v',hr,h1,h2,h3⟩:=append_fill2 (ty:=ty) hsr hb hE hp hys hne hg hsv (hσ x)
  exact ⟨C',v',.inl (by simp [execOp,resolve,invoke,builtin,hr]),h1,h2,h3⟩
theorem AStep.appB (ho:o.op = .call { callee:=.builtin .append,args:=args,argTypes:=ats })
  (hargs:args.toList = [s,x]) (hs:ρ s = osl0 b E.size xs) (hb:h[b]? = some (oblk E.size 0 xs)) (hE:(ats[0]?).bind (elemT P) = some E) (hp:plainArg P ats = true) (hys:contentV h E.size (ρ x) = some ys) (hne:ys ≠ [])
  (hsolid:solidElems ys E.size = true) (hg:growOk E (xs.length + ys.length) = true):AStep P rd o ρ df h (osl b (gen2 xs) (xs ++ ys)) df (h.set b (oblk E.size (gen2 xs) (xs ++ ys))):=by
 have hnl:ys.length ≠ 0:=fun e=>hne (List.eq_nil_of_length_eq_zero e)
 by_cases hx:xs = []
 ·subst hx
  have:=AStep.appA (P:=P) (rd:=rd) (df:=df) (b:=b) ho hargs hs hb hE hp hys (by simpa using hg)
  rw [osl0_ne hne] at this
  rw [List.nil_append,osl_ne hne]
  exact this
 ·have hxy:xs ++ ys ≠ []:=by simp [hx]
  refine AStep.heavy ?_
  rw [ho]
  rw [osl0_ne hx] at hs
  rw [oblk_ne hx] at hb
  rw [osl_ne hxy,oblk_ne hxy,gen2_ne hx]
  simp only [heavyV,hargs,appendV,hE,hp,hys,hs]
  simp [contentV,rowAt,hb,hnl,hsolid,hg]
variable {St:List (Nat×List ABlk)} {N n:Nat} {masks:List Nat} {al al':List (Nat×AV)} {all ops:Array Oper} {os:List Oper} {big k:Nat} {QA:List (Nat×AV)→Prop}
theorem GO.appA {α:Type} {f:α→AV} {us zs:List α} (b:Nat) (hf:fitsN N all o = true) (hw:wantedA all al o = some true) (hbig:big.testBit k = true) (ho:o.op = .call { callee:=.builtin .append,args:=args,argTypes:=ats })
  (hargs:args.toList = [s,x]) (hE:(ats[0]?).bind (elemT P) = some E) (hp:plainArg P ats = true) (hs:avA al s = .sl E.size [] (some 0)) (hx:avA al x = .vw E.size (us.map f)) (hbd:Nat.ble E.bytes 65536 = true) (ha:app [] us = some zs)
  (hl:eachS n masks big k (fun B h=>h[b]? = some .resv∧(B ||| 2 ^ k,h.set b (oblk E.size 0 (zs.map f))) ∈ St) St) (h2:GO P St all n masks big (k + 1) os N (putA al o.dst (osl0 b E.size (zs.map f))) QA):GO P St all n masks big k (o :: os) N al QA:=by
 obtain ⟨h1,rfl⟩:=appE ha
 have hf':=hf
 simp only [fitsN,Bool.and_eq_true] at hf'
 have hxm:=mask_avA (al:=al) hf'.1.2
 have hmem:∀ y,y ∈ args.toList→mask o.op (aval (lst N al)) y = avA al y:=fun y hy=>hxm y (by
  rw [ho]; simp only [Op.operands,Call.operands]; simpa using hy)
 refine GO.step hf hw (eachS_mono (fun B h hl=>?_) hl) h2
 rw [hbig]
 exact ⟨_,AStep.appA ho hargs (by rw [hmem s (by simp [hargs])]; exact hs) hl.1 hE hp (by rw [hmem x (by simp [hargs]),hx]; simp [contentV]) (grow_bound hbd (by simpa using h1)),hl.2⟩
theorem GO.appB {α:Type} {f:α→AV} {us ws zs:List α} (b:Nat) (hf:fitsN N all o = true) (hw:wantedA all al o = some true) (hbig:big.testBit k = true) (ho:o.op = .call { callee:=.builtin .append,args:=args,argTypes:=ats })
  (hargs:args.toList = [s,x]) (hE:(ats[0]?).bind (elemT P) = some E) (hp:plainArg P ats = true) (hs:avA al s = osl0 b E.size (us.map f)) (hys:∀ h,contentV h E.size (avA al x) = some (ws.map f)) (hne:ws ≠ [])
  (hsolid:∀ a,solidElems [f a] E.size = true) (hbd:Nat.ble E.bytes 65536 = true) (ha:app us ws = some zs)
  (hl:eachS n masks big k (fun B h=>h[b]? = some (oblk E.size 0 (us.map f))∧(B ||| 2 ^ k,h.set b (oblk E.size (gen2 us) (zs.map f))) ∈ St) St) (h2:GO P St all n masks big (k + 1) os N (putA al o.dst (osl b (gen2 us) (zs.map f))) QA):GO P St all n masks big k (o :: os) N al QA:=by
 obtain ⟨h1,rfl⟩:=appE ha
 have hg2:gen2 (us.map f) = gen2 us:=by cases us <;> rfl
 rw [List.map_append,← hg2] at hl h2
 have hf':=hf
 simp only [fitsN,Bool.and_eq_true] at hf'
 have hxm:=mask_avA (al:=al) hf'.1.2
 have hmem:∀ y,y ∈ args.toList→mask o.op (aval (lst N al)) y = avA al y:=fun y hy=>hxm y (by
  rw [ho]; simp only [Op.operands,Call.operands]; simpa using hy)
 refine GO.step hf hw (eachS_mono (fun B h hl=>?_) hl) h2
 rw [hbig]
 exact ⟨_,AStep.appB ho hargs (by rw [hmem s (by simp [hargs])]; exact hs) hl.1 hE hp (by rw [hmem x (by simp [hargs])]; exact hys h) (by simpa using hne) (solid_map hsolid ws) (grow_bound hbd (by simpa using h1)),hl.2⟩
end Go.AL
namespace Go.AL
open Go
variable {P:Program}
def OwnV (h:List ABlk) (sz:Nat) (xs:List AV) (v:AV):Prop:=∃ b g,v = osl b g xs∧h[b]? = some (oblk sz g xs)
theorem ACall.own {f:FuncId} {args:List AV} {h h':List ABlk} {v:AV} {sz:Nat} {xs:List AV} (ha:ApartL args) (hx:ApartL xs) (hc:ACall P f args [] (.ret v) h') (hv:OwnV h' sz xs v) :
  ∃ g,ACall P f args h (.ret (osl h.length g xs)) (h ++ [oblk sz g xs]):=by
 obtain ⟨b,g,rfl,hb⟩:=hv
 refine ⟨g,?_⟩
 intro n C cargs hs hargs
 have hargs':VRL C.apart args cargs.toList:=ha.vrl (C:=C) (C2:=C.apart) rfl (apart_outer hs) hargs
 refine (hc n C.apart cargs (apart_SR hs) hargs').mono ?_
 rintro e' w' ⟨C1,rfl,hext,hs1,y,rfl,hy⟩
 have hno:∀ blk,¬ C.apart.owned blk:=by rintro blk ⟨b,l,hb,_⟩; simp [Ctx.apart] at hb
 have hk:Keep C.w C1.w none:=⟨hext.size,fun blk hb _=>hext.same blk hb (hno blk),hext.tape,hext.os,hext.output⟩
 by_cases hne:xs = []
 ·subst hne
  simp only [osl,oblk] at hy ⊢
  have e1:=grow_ext hk
  have s1:=grow_SR hs hk
  have e2:=keepFor_ext s1 1
  have s2:=keepFor_SR s1 1
  refine ⟨(C.grow C1.w).keepFor 1,rfl,e1.trans e2,by simpa using s2,y,rfl,?_⟩
  simpa only [VR] using hy
 ·rw [osl_ne hne] at hy ⊢
  rw [oblk_ne hne] at hb ⊢
  obtain ⟨hp,l,arr,e,vs,r1,r2,r3,r4,r5,r6,r7,r8⟩:=hs1.blk b _ hb
  simp only [VR] at hy
  obtain ⟨hbn,a,c,rfl,hlc,hcap,hl⟩:=hy
  have hown:C1.owned l.cb:=⟨b,l,hbn.1,r1,rfl⟩
  have hge:C.w.heap.size≤l.cb:=(hext.image _ hown).elim (fun h=>absurd h (hno _)) id
  have hle:=push_ext (C:=C) (l:=l) hge hk
  have hforb:∀ blk,¬ C1.forb blk→¬ C.owned blk∧¬ C.forb blk:=by
   intro blk hf
   rw [hext.forb] at hf
   exact ⟨fun h=>hf (.inl h),fun h=>hf (.inr h)⟩
  have hok:∀ blk,C1.ok blk→(C.push l C1.w).ok blk:=by
   rintro blk ⟨q1,q2,q3⟩
   obtain ⟨g1,g2⟩:=hforb blk q2
   refine ⟨q1,g2,?_⟩
   rintro ⟨b',l',hb',hl',rfl⟩
   simp only [Ctx.push] at hl' hb'
   split at hl'
   ·injection hl' with hl'; subst hl'; exact q3 hown
   ·rename_i hne'
    exact g1 ⟨b',l',by omega,hl',rfl⟩
  refine ⟨C.push l C1.w,rfl,hle,push_SR hs hge hk ?_,_,rfl,?_⟩
  ·exact ⟨hp,l,arr,e,vs,by simp [Ctx.push],r2,r3,r4,r5,r6,r7,hx.vrl (C:=C1) (C2:=C.push l C1.w) rfl hok r8⟩
  ·simp only [VR]
   rw [hs.len]
   refine ⟨push_born hs l _,a,c,rfl,hlc,hcap,fun l' hl'=>?_⟩
   simp only [Ctx.push,if_true] at hl'
   injection hl' with hl'
   subst hl'
   exact hl l r1
def RetO (P:Program) (fn:Func) (sz:Nat) (xs:List AV) (al:List (Nat×AV)) (df:List ADef) (h:List ABlk):Prop:=
 ∃ v0 h',ALeave P fn (lst fn.ntmps al) df .returning h (.ret v0) h'∧OwnV h' sz xs v0
def RetOQ (P:Program) (fn:Func) (sz:Nat) (xs:List AV):AX→List (Nat×AV)→List ADef→List ABlk→Prop
 | .ret,al,df,h=>RetO P fn sz xs al df h
 | _,_,_,_=>False
theorem RetO.mk {al:List (Nat×AV)} {h:List ABlk} {fn:Func} {sz:Nat} {xs vs:List AV} (hv:resultsV P (lst fn.ntmps al) h fn.results.toList = some vs) (hf:OwnV h sz xs (packV vs)):RetO P fn sz xs al [] h:=⟨packV vs,h,ALeave.ret hv,hf⟩
theorem RetOQ.mk {al:List (Nat×AV)} {h:List ABlk} {fn:Func} {sz:Nat} {xs vs:List AV} (hv:resultsV P (lst fn.ntmps al) h fn.results.toList = some vs) (hf:OwnV h sz xs (packV vs)):RetOQ P fn sz xs .ret al [] h:=RetO.mk hv hf
theorem OwnV.mk {h:List ABlk} {sz b g:Nat} {xs:List AV} (hb:h[b]? = some (oblk sz g xs)):OwnV h sz xs (osl b g xs):=⟨b,g,rfl,hb⟩
theorem ACall.mirO {f:FuncId} {fn:Func} {c:Code} {args:List AV} {sz:Nat} {xs:List AV} (k:Nat) (hf:P.funcs[f]? = some fn) (hb:fn.body = some c) (ha:ApartL args) (hx:ApartL xs) {al:List (Nat×AV)}
  (hal:args ++ List.replicate (fn.ntmps - args.length) .poison = lst fn.ntmps al) (hs:SX P none c fn.ntmps al [] (List.replicate k .resv) (RetOQ P fn sz xs)) (h:List ABlk):∃ g,ACall P f args h (.ret (osl h.length g xs)) (h ++ [oblk sz g xs]):=by
 obtain ⟨x,al',df',h2,g1,_,g3⟩:=hs
 cases x <;> simp only [RetOQ] at g3
 obtain ⟨v0,h',g4,g5⟩:=g3
 refine ACall.own ha hx (ACall.of_body (out:=⟨.ret,lst fn.ntmps al',df',h2⟩) (m:=.returning) hf hb ?_ rfl g4) g5
 rw [hal]
 exact AExec.keepFor k rdNone (by simpa using g1)
theorem SOps.callO {N:Nat} {al:List (Nat×AV)} {df:List ADef} {h:List ABlk} {Q:AX→List (Nat×AV)→List ADef→List ABlk→Prop} {all:Array Oper} {k:Nat} {o:Oper} {os:List Oper} {c:Call} {f:FuncId} {args:List AV} {sz:Nat} {xs:List AV} (hf:fitsN N all o = true) (hw:wantedA all al o = some true) (ho:o.op = .call c)
  (hc:calleeV (avA al) c = some (f,args)) (hcal:callable P f = true) (hcall:∃ g,ACall P f args h (.ret (osl h.length g xs)) (h ++ [oblk sz g xs]))
  (h2:∀ g,SOps P none all (k + 1) os N (putA al o.dst (osl h.length g xs)) df (h ++ [oblk sz g xs]) Q):SOps P none all k (o :: os) N al df h Q:=by
 obtain ⟨g,hcall⟩:=hcall
 exact SOps.call hf hw ho hc hcal hcall rdNone (h2 g)
end Go.AL
namespace Go.AL
open Go
variable {P:Program}
def kvs (l:List (Int×Int)):List (AV×AV):=l.map fun p=>(.int .i64 p.1,.int .i64 p.2)
def mget:List (Int×Int)→Int→Int
 | [],_=>0
 | (k',v) :: l,k=>bif k == k' then v else mget l k
def mput:List (Int×Int)→Int→Int→List (Int×Int)
 | [],k,v=>[(k,v)]
 | (k',v') :: l,k,v=>bif k == k' then (k,v) :: l else (k',v') :: mput l k v
def mfind:List (Int×Int)→Int→Nat→Option (Nat×Int)
 | [],_,_=>none
 | (k',v) :: l,k,i=>bif k == k' then some (i,v) else mfind l k (i + 1)
theorem eqIn_int {kt:TypeId} {d:Nat} {a b:Int} (hk:P.underlying kt = some (.int .i64)):eqIn P (d + 1) kt (.int .i64 a) (.int .i64 b) = some (a == b):=by
 simp [eqIn,hk]
theorem findV_int {kt:TypeId} {k:Int} (hk:P.underlying kt = some (.int .i64)):∀ (l:List (Int×Int)) (i:Nat),findV P kt (.int .i64 k) (kvs l) i = some ((mfind l k i).map fun p=>(p.1,.int .i64 p.2))
 | [],i=>rfl
 | (k',v) :: l,i=>by
  show (match eqIn P (9999 + 1) kt (.int .i64 k) (.int .i64 k') with
   | some true=>some (some (i,AV.int .i64 v))
   | some false=>findV P kt (.int .i64 k) (kvs l) (i + 1)
   | none=>none) = _
  rw [eqIn_int hk]
  simp only [mfind]
  cases hb:k == k' with
  | true=>rfl
  | false=>simp only [cond_false]; exact findV_int hk l (i + 1)
theorem mget_find {k:Int}:∀ (l:List (Int×Int)) (i:Nat),mget l k = ((mfind l k i).map (·.2)).getD 0
 | [],_=>rfl
 | (k',v) :: l,i=>by
  simp only [mget,mfind]
  cases k == k' with
  | true=>rfl
  | false=>exact mget_find l (i + 1)
theorem mput_find {k v:Int}:∀ (l:List (Int×Int)) (i:Nat),mput l k v = (match mfind l k i with
  | none=>l ++ [(k,v)]
  | some p=>l.set (p.1 - i) (k,v))∧(∀ p,mfind l k i = some p→i≤p.1∧∃ w,l[p.1 - i]? = some (k,w))
 | [],i=>⟨rfl,fun p h=>by cases h⟩
 | (k',w) :: l,i=>by
  simp only [mput,mfind]
  cases hb:k == k' with
  | true=>
   have:k = k':=by simpa using hb
   subst this
   refine ⟨by simp,fun p h=>?_⟩
   simp only [cond_true] at h
   injection h with h; subst h
   exact ⟨Nat.le_refl _,w,by simp⟩
  | false=>
   simp only [cond_false]
   obtain ⟨h1,h2⟩:=mput_find (k:=k) (v:=v) l (i + 1)
   cases hm:mfind l k (i + 1) with
   | none=>
    rw [hm] at h1
    refine ⟨by simp only [h1,List.cons_append],fun p h=>by cases h⟩
   | some p=>
    rw [hm] at h1
    obtain ⟨h3,w',h4⟩:=h2 p hm
    have e:p.1 - i = (p.1 - (i + 1)) + 1:=by omega
    refine ⟨by simp only [h1]; rw [e,List.set_cons_succ],fun q h=>?_⟩
    injection h with h; subst h
    exact ⟨by omega,w',by rw [e]; simpa using h4⟩
theorem ckV_int {kt:TypeId} {d:Nat} {x:AV} (hk:P.underlying kt = some (.int .i64)):ckV P (d + 1) kt x = true:=by simp [ckV,hk]
theorem lightV_lookupI {ρ:Operand→AV} {h:List ABlk} {t kt et:TypeId} {x i:Operand} {b:Nat} {l:List (Int×Int)} {k:Int} (hx:ρ x = .map b) (hi:ρ i = .int .i64 k) (hb:h[b]? = some (.map (kvs l))) (ht:P.underlying t = some (.map kt et)) (hk:P.underlying kt = some (.int .i64))
  (hz:zeroT P et = some (.int .i64 0)):lightV P ρ h (.lookup t x i false) = some (.int .i64 (mget l k)):=by
 have hck:ckV P 10000 kt (.int .i64 k) = true:=ckV_int (d:=9999) hk
 have he:entriesV h (.map b) = some (kvs l):=by simp [entriesV,mapAt,hb]
 simp only [lightV,lookupV,ht,hx,hi,he,hk,hck,if_true,findV_int hk]
 rw [mget_find l 0]
 cases mfind l k 0 with
 | none=>simp [hz]
 | some p=>simp
theorem heavyV_mapSetI {ρ:Operand→AV} {h:List ABlk} {t kt et:TypeId} {m i y:Operand} {b:Nat} {l:List (Int×Int)} {k v:Int} (hx:ρ m = .map b) (hi:ρ i = .int .i64 k) (hy:ρ y = .int .i64 v) (hb:h[b]? = some (.map (kvs l))) (ht:P.underlying t = some (.map kt et)) (hk:P.underlying kt = some (.int .i64)) :
  heavyV P ρ h (.mapUpdate t m i y) = some (.poison,h.set b (.map (kvs (mput l k v)))):=by
 have hck:ckV P 10000 kt (.int .i64 k) = true:=ckV_int (d:=9999) hk
 have he:mapAt h b = some (kvs l):=by simp [mapAt,hb]
 obtain ⟨h1,h2⟩:=mput_find (k:=k) (v:=v) l 0
 simp only [heavyV,mapSetV,ht,hx,hi,hy,he,hk,hck,if_true,findV_int hk]
 cases hm:mfind l k 0 with
 | none=>
  rw [hm] at h1
  simp [h1,kvs]
 | some p=>
  rw [hm] at h1
  obtain ⟨_,w,h4⟩:=h2 p hm
  simp only [Nat.sub_zero] at h1 h4
  simp [h4,keyEq,h1,kvs,List.map_set]
theorem ACall.ownMap {f:FuncId} {args:List AV} {h h':List ABlk} {b:Nat} {m:List (Int×Int)} (ha:ApartL args) (hc:ACall P f args [] (.ret (.map b)) h') (hb:h'[b]? = some (.map (kvs m))) :
  ACall P f args h (.ret (.map h.length)) (h ++ [.map (kvs m)]):=by
 intro n C cargs hs hargs
 have hargs':VRL C.apart args cargs.toList:=ha.vrl (C:=C) (C2:=C.apart) rfl (apart_outer hs) hargs
 refine (hc n C.apart cargs (apart_SR hs) hargs').mono ?_
 rintro e' w' ⟨C1,rfl,hext,hs1,y,rfl,hy⟩
 have hno:∀ blk,¬ C.apart.owned blk:=by rintro blk ⟨b,l,hb,_⟩; simp [Ctx.apart] at hb
 have hk:Keep C.w C1.w none:=⟨hext.size,fun blk hb _=>hext.same blk hb (hno blk),hext.tape,hext.os,hext.output⟩
 obtain ⟨l,arr,clock,r1,r2,r3,r4,r5,r6,r7⟩:=hs1.blk b _ hb
 simp only [VR] at hy
 obtain ⟨hbn,r,rfl,hl⟩:=hy
 have hown:C1.owned l.cb:=⟨b,l,hbn.1,r1,rfl⟩
 have hge:C.w.heap.size≤l.cb:=(hext.image _ hown).elim (fun h=>absurd h (hno _)) id
 have hle:=push_ext (C:=C) (l:=l) hge hk
 have hint:∀ (C C2:Ctx) (xs:List Int) (vs:List Value),VRL C (xs.map (AV.int .i64)) vs→VRL C2 (xs.map (AV.int .i64)) vs:=by
  intro C C2 xs
  induction xs with
  | nil=>intro vs hv; simpa only [List.map_nil,VRL] using hv
  | cons x xs ih=>
   intro vs hv
   simp only [List.map_cons,VRL,VR] at hv ⊢
   obtain ⟨y,ys,rfl,h1,h2⟩:=hv
   exact ⟨y,ys,rfl,h1,ih ys h2⟩
 have e1:(kvs m).map (·.1) = (m.map (·.1)).map (AV.int .i64):=by simp [kvs]
 have e2:(kvs m).map (·.2) = (m.map (·.2)).map (AV.int .i64):=by simp [kvs]
 refine ⟨C.push l C1.w,rfl,hle,push_SR hs hge hk ?_,_,rfl,?_⟩
 ·refine ⟨l,arr,clock,by simp [Ctx.push],r2,r3,?_,?_,r6,r7⟩
  ·rw [e1] at r4 ⊢; exact hint _ _ _ _ r4
  ·rw [e2] at r5 ⊢; exact hint _ _ _ _ r5
 ·simp only [VR]
  rw [hs.len]
  refine ⟨push_born hs l _,r,rfl,fun l' hl' hg=>?_⟩
  simp only [Ctx.push,if_true] at hl'
  injection hl' with hl'
  subst hl'
  exact hl l r1 r2
def RetM (P:Program) (fn:Func) (m:List (Int×Int)) (al:List (Nat×AV)) (df:List ADef) (h:List ABlk):Prop:=
 ∃ b h',ALeave P fn (lst fn.ntmps al) df .returning h (.ret (.map b)) h'∧h'[b]? = some (.map (kvs m))
def RetMQ (P:Program) (fn:Func) (m:List (Int×Int)):AX→List (Nat×AV)→List ADef→List ABlk→Prop
 | .ret,al,df,h=>RetM P fn m al df h
 | _,_,_,_=>False
theorem RetM.mk {al:List (Nat×AV)} {h:List ABlk} {fn:Func} {b:Nat} {m:List (Int×Int)} (hv:resultsV P (lst fn.ntmps al) h fn.results.toList = some [.map b]) (hf:h[b]? = some (.map (kvs m))):RetM P fn m al [] h:=⟨b,h,ALeave.ret hv,hf⟩
theorem ACall.mirM {f:FuncId} {fn:Func} {c:Code} {args:List AV} {m:List (Int×Int)} (hf:P.funcs[f]? = some fn) (hb:fn.body = some c) (ha:ApartL args) {al:List (Nat×AV)}
  (hal:args ++ List.replicate (fn.ntmps - args.length) .poison = lst fn.ntmps al) (hs:SX P none c fn.ntmps al [] [] (RetMQ P fn m)) (h:List ABlk):ACall P f args h (.ret (.map h.length)) (h ++ [.map (kvs m)]):=by
 obtain ⟨x,al',df',h2,g1,_,g3⟩:=hs
 cases x <;> simp only [RetMQ] at g3
 obtain ⟨b,h',g4,g5⟩:=g3
 exact ACall.ownMap ha (ACall.of_body (out:=⟨.ret,lst fn.ntmps al',df',h2⟩) (m:=.returning) hf hb (by rw [hal]; exact g1) rfl g4) g5
theorem ACall.mirI {f:FuncId} {fn:Func} {c:Code} {args:List AV} {h:List ABlk} {sz:Nat} {xs:List AV} (hf:P.funcs[f]? = some fn) (hb:fn.body = some c) {al:List (Nat×AV)}
  (hal:args ++ List.replicate (fn.ntmps - args.length) .poison = lst fn.ntmps al)
  (hs:SX P none c fn.ntmps al [] (h ++ [.resv]) fun x al' df' h'=>x = .ret∧df' = []∧∃ g,resultsV P (lst fn.ntmps al') h' fn.results.toList = some [osl h.length g xs]∧h' = h ++ [oblk sz g xs]) :
  ∃ g,ACall P f args h (.ret (osl h.length g xs)) (h ++ [oblk sz g xs]):=by
 obtain ⟨x,al',df',h2,g1,_,rfl,rfl,g,g3,rfl⟩:=hs
 refine ⟨g,ACall.of_body (out:=⟨.ret,lst fn.ntmps al',[],h ++ [oblk sz g xs]⟩) (m:=.returning) hf hb ?_ rfl (ALeave.ret g3)⟩
 rw [hal]
 exact AExec.keepFor 1 rdNone (by simpa using g1)
theorem GO.callH {St:List (Nat×List ABlk)} {N n:Nat} {masks:List Nat} {al:List (Nat×AV)} {all:Array Oper} {o:Oper} {os:List Oper} {big k:Nat} {QA:List (Nat×AV)→Prop} {c:Call} {f:FuncId} {args:List AV} {v:AV} (hf:fitsN N all o = true) (hw:wantedA all al o = some true) (hb:big.testBit k = true)
  (ho:o.op = .call c) (hc:calleeV (avA al) c = some (f,args)) (hcal:callable P f = true) (hcall:eachS n masks big k (fun B h=>∃ h',ACall P f args h (.ret v) h'∧(B ||| 2 ^ k,h') ∈ St) St) (h2:GO P St all n masks big (k + 1) os N (putA al o.dst v) QA):GO P St all n masks big k (o :: os) N al QA:=by
 have hf':=hf
 simp only [fitsN,Bool.and_eq_true] at hf'
 have hx:=mask_avA (al:=al) hf'.1.2
 refine GO.step hf hw (eachS_mono (fun B h hl=>?_) hcall) h2
 rw [hb]
 rw [ho] at hx
 obtain ⟨h',h1,h3⟩:=hl
 refine ⟨h',?_,h3⟩
 rw [ho]
 exact AStep.call ho (by rw [calleeV_congr hx]; exact hc) hcal h1
end Go.AL
namespace Go.AL
open Go
variable {P:Program}
def updO {α:Type} (xs:List α) (r:Nat) (v:α):Option (List α):=bif Nat.blt r xs.length then some (xs.set r v) else none
def slcF {α:Type} (xs:List α) (hi:Int) (n:Nat):Option (List α):=bif decide (xs.length = n∧0≤hi∧hi≤n) then some (xs.take hi.toNat) else none
theorem updE {α:Type} {xs zs:List α} {r:Nat} {v:α} (h:updO xs r v = some zs):r < xs.length∧zs = xs.set r v:=by
 unfold updO at h
 cases hb:Nat.blt r xs.length with
 | false=>rw [hb] at h; cases h
 | true=>rw [hb] at h; injection h with h; exact ⟨by simpa using hb,h.symm⟩
theorem slcFE {α:Type} {xs ys:List α} {hi:Int} {n:Nat} (h:slcF xs hi n = some ys):(xs.length = n∧0≤hi∧hi≤n)∧ys = xs.take hi.toNat:=by
 unfold slcF at h
 by_cases hc:xs.length = n∧0≤hi∧hi≤n
 ·rw [decide_eq_true hc] at h; injection h with h; exact ⟨hc,h.symm⟩
 ·rw [decide_eq_false hc] at h; cases h
variable {ρ:Operand→AV} {h:List ABlk}
theorem lightV_idxM {t e:TypeId} {x i:Operand} {b len r sz:Nat} {c:Option Nat} {n:Int} {L:List AV} (hx:ρ x = .hsl b 0 0 len c) (hi:ρ i = .int .i64 n) (ht:P.underlying t = some (.slice e)) (hs:sizeT P e = some (sz + 1)) (hb:rowAt h b 0 = some (sz + 1,L)) (hr:inr n len = some r) :
  lightV P ρ h (.indexAddr t x i) = some (.ptr b 0 r 0):=by
 obtain ⟨h0,h1,rfl,_⟩:=inrE hr
 simp only [lightV,hx,hi,indexAddrW,indexAddrV,ht,hs,hb]
 rw [if_neg (by omega),if_pos h1]
 simp
theorem heavyV_upd {α:Type} {t:TypeId} {x y:Operand} {b r sz:Nat} {f:α→AV} {xs zs:List α} {v:α} (hx:ρ x = .ptr b 0 r 0) (hy:ρ y = f v) (hb:rowAt h b 0 = some (sz,xs.map f)) (hs:sizeT P t = some 1) (hsz:sz = 1) (hc:∀ a,cellsV (f a) = some [f a]) (hsol:∀ a,solid (f a) = true) (hq:updO xs r v = some zs) :
  heavyV P ρ h (.store t x y) = some (.poison,h.set b (.row 0 sz (zs.map f))):=by
 obtain ⟨h1,rfl⟩:=updE hq
 subst hsz
 have hagg:∀ a cs,f a ≠ .agg cs:=fun a cs e=>by have:=hsol a; rw [e] at this; cases this
 have hp:∀ a,putPart 1 (f a) 0 (f v) = some (f v):=by
  intro a
  simp only [putPart,hc]
  rw [if_pos (by simp [hsol])]
  split
  ·rename_i es he; exact absurd he (hagg a es)
  ·simp
 simp only [heavyV,storeV,hx,hy,hb,hs,hc]
 simp [h1,hp,List.map_set]
theorem lightV_loadM {α:Type} {t:TypeId} {x:Operand} {b r sz:Nat} {f:α→AV} {xs:List α} {y:α} (hx:ρ x = .ptr b 0 r 0) (hb:rowAt h b 0 = some (sz,xs.map f)) (hagg:isAggT P t = some false) (hs:sizeT P t = some 1) (hc:∀ a,cellsV (f a) = some [f a]) (hsol:∀ a,solid (f a) = true) (hq:xs[r]? = some y) :
  lightV P ρ h (.load t x) = some (f y):=by
 have hg:getPart P t (f y) 0 = some (f y):=by
  simp only [getPart,hagg,hs]
  split
  ·rename_i cs he; have:=hsol y; rw [he] at this; cases this
  ·rename_i vs he; have:=hsol y; rw [he] at this; cases this
  ·simp
 simp only [lightV,loadV,hx,hb]
 simp [hq,hg]
theorem lightV_slcM {α:Type} {t e:TypeId} {x hi:Operand} {b len sz:Nat} {n:Int} {f:α→AV} {xs ys:List α} (hx:ρ x = .hsl b 0 0 len (some len)) (hh:ρ hi = .int .i64 n) (ht:P.underlying t = some (.slice e)) (hs:sizeT P e = some sz) (hb:rowAt h b 0 = some (sz,xs.map f)) (hq:slcF xs n len = some ys) :
  lightV P ρ h (.slice t x none (some hi) none) = some (.hsl b 0 0 n.toNat (some len)):=by
 obtain ⟨⟨_,h0,h1⟩,_⟩:=slcFE hq
 simp only [lightV,Option.map_some,Option.map_none,hx,hh,sliceW,sliceV,ht,hs,hb]
 simp [boundsV,boundV,h0,h1]
theorem frozen_mut {α:Type} {b len sz:Nat} {n:Int} {f:α→AV} {xs ys:List α} (hb:h[b]? = some (.row 0 sz (xs.map f))) (hq:slcF xs n len = some ys) (hpos:0 < len) (hf:∀ a,ApartV (f a)):FrozenV h (.hsl b 0 0 n.toNat (some len)) (.vw sz (ys.map f)):=fun C C2 y hs ho hy=>by
 obtain ⟨⟨hl,h0,h1⟩,rfl⟩:=slcFE hq
 simp only [VR] at hy ⊢
 obtain ⟨hbn,a,c,rfl,hlc,hcap,ha⟩:=hy
 have hc:=hcap len rfl
 subst hc
 obtain ⟨_,l,arr,e,vs,r1,r2,r3,r4,r5,r6,r7,r8⟩:=hs.blk b _ hb
 have ha':=((ha l r1).2 r2.symm).1 (by omega)
 have hmin:((xs.take n.toNat).map f).length = n.toNat:=by simp; omega
 have h6:VRL C2 ((xs.take n.toNat).map f) (vs.take n.toNat):=by
  rw [List.map_take]
  exact (ApartL.vrl (l:=xs.map f) (ApartL.map fun x _=>hf x) ho.w ho.ok r8).take n.toNat
 refine .inr ⟨a,c,vs.take n.toNat,by rw [hmin],by rw [hmin]; omega,fun _=>by rw [ha'],fun _=>by rw [ha']; exact ho.owned b l hbn.1 r1,?_,h6⟩
 rw [ho.w,ha']
 intro i hi
 have hi':i < vs.length:=by simp at hi; omega
 have:=r7 i hi'
 simp only [List.getElem_take]
 simpa [r3] using this
end Go.AL
namespace Go.AL
open Go
variable {P:Program}
theorem fill_obj {C:Ctx} {h:List ABlk} (hs:SR C h) {b:Nat} (hres:C.res b) (o:Obj) (x:ABlk) (hx:∀ (C':Ctx) (l:Loc),l.cb = C.w.heap.size→l.g = 0→C'.ρ b = some l→C'.w.heap[C.w.heap.size]? = some o→Ext C C'→BR C' b x) :
  ∃ l:Loc,l.cb = C.w.heap.size∧l.g = 0∧Ext C (C.fill b l { C.w with heap:=C.w.heap.push o })∧SR (C.fill b l { C.w with heap:=C.w.heap.push o }) (h.set b x):=by
 let l:Loc:={ g:=0,cb:=C.w.heap.size,d:=0,sz:=0,size:=0 }
 have hk:Keep C.w { C.w with heap:=C.w.heap.push o } none:=Keep.alloc C.w _
 have he:=fill_ext (C:=C) (l:=l) hres (Nat.le_refl _) hk
 refine ⟨l,rfl,rfl,he,fill_SR hs hres (Nat.le_refl _) hk (hx _ l rfl rfl (by simp [Ctx.fill]) ?_ he)⟩
 show (C.w.heap.push o)[C.w.heap.size]? = some o
 simp
theorem AExec.rangeFunc_fill {env:List AV} {df:List ADef} {h:List ABlk} {out:AOut} {g:Operand} {ps:Array Tmp} {assign body:Code} {f:FuncId} {first captured:List AV} {v:AV} {h2:List ABlk} {st:LoopState} {pend:Option Code} {e2:List AV} {ps2:Array Tmp} {assign2 body2:Code} (lb:Nat)
  (hlr:h[lb]? = some .resv) (hg:aval env g = .func (.func f) first captured) (hcal:callable P f = true)
  (hcall:ACall P f (first ++ [.yield lb] ++ captured) ((h ++ [ABlk.defr]).set lb (.loop .ready none env ps assign body)) (.ret v) h2)
  (hb2:h2[lb]? = some (.loop st pend e2 ps2 assign2 body2)) (hst:st ≠ .busy)
  (hj:AfterRange P none env (.mark h.length :: df) (h2.set lb (.loop .exhausted pend e2 ps2 assign2 body2)) out pend) :
  AExec P none (.rangeFunc g ps assign body) env df h out:=by
 intro F n C tmps defers hF hs he hd
 have hF':F = Fence.wide:=hF
 subst hF'
 refine wpIn_rangeFunc fun fn _=>?_
 have hv:=aval_all (a:=⟨tmps,defers⟩) he g
 rw [hg] at hv
 simp only [VR] at hv
 obtain ⟨fa,ca,hgv,h1,h2'⟩:=hv
 have hlt:lb < h.length:=(List.getElem?_eq_some_iff.1 hlr).1
 obtain ⟨l0,a1,a2,ext0,sr0⟩:=push_obj hs (.deferred (some [])) .defr (fun C' l hl hg0 hρ hh _=>⟨l,hρ,hg0,by rw [hl]; exact hh⟩)
 generalize hC0:C.push l0 { C.w with heap:=C.w.heap.push (.deferred (some [])) } = C0 at ext0 sr0
 have hC0n:C0.n = C.n + 1:=by rw [← hC0]; rfl
 have hC0s:C0.w.heap.size = C.w.heap.size + 1:=by rw [← hC0]; simp [Ctx.push]
 have hC0ρ:C0.ρ C.n = some l0:=by rw [← hC0]; simp [Ctx.push]
 have hres0:C0.res lb:=(sr0.res lb).2 (by rw [List.getElem?_append_left hlt]; exact hlr)
 let rec_:Loop:={ state:=.ready,pending:=none,fn,tmps,params:=ps,assign,body,defers:=C.w.heap.size }
 obtain ⟨l1,b1,b2,ext1,sr1⟩:=fill_obj sr0 hres0 (.loop rec_) (.loop .ready none env ps assign body) (fun C' l hl hg0 hρ hh hext=>⟨l,rec_,hρ,hg0,by rw [hl]; exact hh,rfl,rfl,VRL.ext (ext0.trans hext) _ _ he,rfl,rfl,rfl⟩)
 generalize hC1:C0.fill lb l1 { C0.w with heap:=C0.w.heap.push (.loop rec_) } = C1 at ext1 sr1
 have hne:C.n ≠ lb:=by rw [← hs.len]; omega
 have hC1ρ:C1.ρ lb = some l1:=by rw [← hC1]; simp [Ctx.fill]
 have hC1ρ0:C1.ρ C.n = some l0:=by rw [← hC1]; simp [Ctx.fill,hne,hC0ρ]
 have hC1n:C1.n = C.n + 1:=by rw [← hC1]; simp [Ctx.fill,hC0n]
 have hw1:C1.w = (C.w.alloc (.deferred (some []))).alloc (.loop rec_):=by rw [← hC1,← hC0]; rfl
 have hargs:VRL C1 (first ++ [.yield lb] ++ captured) (fa ++ #[(.func (.yield (C.w.heap.size + 1)) #[] #[]:Value)] ++ ca).toList:=by
  have e:=ext0.trans ext1
  have hy:VR C1 (.yield lb) (.func (.yield (C.w.heap.size + 1)) #[] #[]):=by
   simp only [VR]
   refine ⟨sr1.born (by rw [hC1n,← hs.len]; omega) hC1ρ,_,rfl,fun l hl _=>?_⟩
   rw [hC1ρ] at hl; injection hl with hl; subst hl
   rw [b1,hC0s]
  simpa using ((VRL.ext e _ _ h1).append (.cons hy .nil)).append (VRL.ext e _ _ h2')
 refine ⟨C.w.heap.size + 1,[{ target:=.collected C.w.heap.size,args:=#[] }],C1.w,{ target:=.fn (.func f) ca,args:=fa ++ #[(.func (.yield (C.w.heap.size + 1)) #[] #[]:Value)] },C1.w,f,fa ++ #[(.func (.yield (C.w.heap.size + 1)) #[] #[]:Value)] ++ ca,C1.w,?_,?_,fun _ _=>trivial,?_,by simp [Fence.wide],?_⟩
 ·rw [hw1]; exact run_enterLoop_outer fn tmps ps assign body
 ·exact run_resolve_range hgv
 ·exact run_callFunc hcal
 ·refine (hcall (n - 1) C1 _ sr1 hargs).mono ?_
  rintro e' w' ⟨C2,rfl,hext2,hs2,y,rfl,hy⟩
  obtain ⟨loc2,r2,hln2,n1,n2,n3,n4,n5,n6,n7,n8,n9,nupd⟩:=loop_upd hs2 hb2
  have hloc2:loc2 = l1:=by
   rcases hext2.ρ lb (sr1.born (by rw [hC1n,← hs.len]; omega) hC1ρ) loc2 n1 with hq | ⟨_,_,hg,_⟩
   ·rw [hC1ρ] at hq; injection hq with hq; exact hq.symm
   ·omega
  subst hloc2
  obtain ⟨v1,v2⟩:=nupd .exhausted pend
  have hend:(Instr.endLoop (C.w.heap.size + 1)).run P C2.w = .ok pend (Go.World.putObj C2.w loc2.cb (.loop { r2 with state:=.exhausted,pending:=pend })):=by
   have:=run_endLoop (P:=P) n3 (by rw [n4]; exact hst)
   rw [b1,hC0s] at this
   rw [b1,hC0s,this,n5]
  have hall:Ext C (C2.upd lb loc2 (Go.World.putObj C2.w loc2.cb (.loop { r2 with state:=.exhausted,pending:=pend }))):=(ext0.trans ext1).trans (hext2.trans v1)
  have hd':DR (C2.upd lb loc2 (Go.World.putObj C2.w loc2.cb (.loop { r2 with state:=.exhausted,pending:=pend }))) (.mark h.length :: df) ([{ target:=.collected C.w.heap.size,args:=#[] }] ++ defers):=by
   refine ⟨⟨?_,rfl,C.w.heap.size,rfl,fun l hl hg0=>?_⟩,hd.ext hall⟩
   ·rw [hs.len]; exact (hext2.trans v1).born _ (sr1.born (by omega:C.n < C1.n) hC1ρ0)
   ·have hl':(C2.upd lb loc2 (Go.World.putObj C2.w loc2.cb (.loop { r2 with state:=.exhausted,pending:=pend }))).ρ C.n = some l:=by
     first | exact hl | (rw [hs.len] at hl; exact hl)
    rcases (hext2.trans v1).ρ C.n (sr1.born (by omega) hC1ρ0) l hl' with hq | ⟨_,_,hg,_⟩
    ·rw [hC1ρ0] at hq; injection hq with hq; subst hq; exact a1.symm
    ·omega
  refine ⟨pend,_,hend,?_⟩
  cases pend with
  | none=>
   simp only [AfterRange] at hj
   subst hj
   exact ⟨_,rfl,hall,v2,rfl,VRL.ext hall _ _ he,hd'⟩
  | some c=>
   simp only [AfterRange] at hj
   exact wpIn_mono (hj Fence.wide n _ tmps _ rfl v2 (VRL.ext hall _ _ he) hd') fun _ _ _ ho=>ho.trans hall
mutual
def avoidV (S:Nat→Bool):AV→Prop
 | .ptr b _ _ _=>S b = false
 | .hsl b _ _ _ _=>S b = false
 | .map b=>S b = false
 | .yield b=>S b = false
 | .rptr v=>avoidV S v
 | .sl _ xs _=>avoidL S xs
 | .vw _ xs=>avoidL S xs
 | .agg xs=>avoidL S xs
 | .tup xs=>avoidL S xs
 | .func _ f c=>avoidL S f∧avoidL S c
 | .iface _ v=>avoidV S v
 | .bool _=>True
 | .int _ _=>True
 | .str _=>True
 | .nilp=>True
 | .nils=>True
 | .nilm=>True
 | .nilf=>True
 | .nili=>True
 | .poison=>True
def avoidL (S:Nat→Bool):List AV→Prop
 | []=>True
 | x :: xs=>avoidV S x∧avoidL S xs
end
def avoidB (S:Nat→Bool):ABlk→Prop
 | .row _ _ xs=>avoidL S xs
 | .map es=>avoidL S (es.map (·.1))∧avoidL S (es.map (·.2))
 | .loop _ _ env _ _ _=>avoidL S env
 | _=>True
theorem avoidL_iff {S:Nat→Bool} {l:List AV}:avoidL S l↔∀ v ∈ l,avoidV S v:=by
 induction l with
 | nil=>simp [avoidL]
 | cons x xs ih=>simp [avoidL,ih]
theorem avoidL_map {S:Nat→Bool} {α:Type} {f:α→AV} {l:List α} (hf:∀ x,avoidV S (f x)):avoidL S (l.map f):=avoidL_iff.2 fun v hv=>by
 obtain ⟨x,_,rfl⟩:=List.mem_map.1 hv
 exact hf x
def Ctx.unfill (C:Ctx) (S:Nat→Bool):Ctx:={ C with ρ:=fun b=>bif S b then none else C.ρ b,res:=fun b=>C.res b ∨ (S b = true∧b < C.n) }
theorem unfill_owned {C:Ctx} {S:Nat→Bool} {blk:Nat} (h:(C.unfill S).owned blk):C.owned blk:=by
 obtain ⟨b,l,hb,hl,hc⟩:=h
 simp only [Ctx.unfill] at hl
 cases hS:S b with
 | true=>rw [hS] at hl; cases hl
 | false=>rw [hS] at hl; exact ⟨b,l,hb,hl,hc⟩
theorem unfill_ok {C:Ctx} {S:Nat→Bool} {blk:Nat} (h:C.ok blk):(C.unfill S).ok blk:=⟨h.1,h.2.1,fun ho=>h.2.2 (unfill_owned ho)⟩
theorem unfill_born {C:Ctx} {S:Nat→Bool} {b:Nat} (hb:S b = false) (h:C.born b):(C.unfill S).born b:=⟨h.1,fun hr=>hr.elim h.2 fun h'=>by rw [hb] at h'; cases h'.1⟩
theorem unfill_ρ {C:Ctx} {S:Nat→Bool} {b:Nat} (hb:S b = false):(C.unfill S).ρ b = C.ρ b:=by simp [Ctx.unfill,hb]
mutual
theorem VR.unfill {C:Ctx} {S:Nat→Bool}:∀ (x:AV) (v:Value),avoidV S x→VR C x v→VR (C.unfill S) x v
 | .bool _,_,_,hv=>by simpa only [VR] using hv
 | .int _ _,_,_,hv=>by simpa only [VR] using hv
 | .str _,_,_,hv=>by simpa only [VR] using hv
 | .nilp,_,_,hv=>by simpa only [VR] using hv
 | .nils,_,_,hv=>by simpa only [VR] using hv
 | .nilm,_,_,hv=>by simpa only [VR] using hv
 | .nilf,_,_,hv=>by simpa only [VR] using hv
 | .nili,_,_,hv=>by simpa only [VR] using hv
 | .poison,_,_,_=>by simp only [VR]
 | .ptr b g i o,v,hb,hv=>by
  simp only [VR] at hv ⊢
  simp only [avoidV] at hb
  obtain ⟨h1,a,rfl,h2⟩:=hv
  exact ⟨unfill_born hb h1,a,rfl,fun l hl=>h2 l (by rwa [unfill_ρ hb] at hl)⟩
 | .hsl b g i len cap,v,hb,hv=>by
  simp only [VR] at hv ⊢
  simp only [avoidV] at hb
  obtain ⟨h1,a,c,rfl,h2,h3,h4⟩:=hv
  exact ⟨unfill_born hb h1,a,c,rfl,h2,h3,fun l hl=>h4 l (by rwa [unfill_ρ hb] at hl)⟩
 | .map b,v,hb,hv=>by
  simp only [VR] at hv ⊢
  simp only [avoidV] at hb
  obtain ⟨h1,a,rfl,h2⟩:=hv
  exact ⟨unfill_born hb h1,a,rfl,fun l hl=>h2 l (by rwa [unfill_ρ hb] at hl)⟩
 | .yield b,v,hb,hv=>by
  simp only [VR] at hv ⊢
  simp only [avoidV] at hb
  obtain ⟨h1,a,rfl,h2⟩:=hv
  exact ⟨unfill_born hb h1,a,rfl,fun l hl=>h2 l (by rwa [unfill_ρ hb] at hl)⟩
 | .rptr x,v,hb,hv=>by
  simp only [VR] at hv ⊢
  simp only [avoidV] at hb
  obtain ⟨a,y,rfl,hs,hok,hp,hh,hx⟩:=hv
  exact ⟨a,y,rfl,hs,unfill_ok hok,hp,hh,VR.unfill x y hb hx⟩
 | .sl sz xs cap,v,hb,hv=>by
  simp only [VR] at hv ⊢
  simp only [avoidV] at hb
  obtain ⟨a,c,vs,rfl,hc,hcap,hs,hok,hh,hx⟩:=hv
  exact ⟨a,c,vs,rfl,hc,hcap,hs,fun hne=>unfill_ok (hok hne),hh,VRL.unfill xs vs hb hx⟩
 | .vw sz xs,v,hb,hv=>by
  simp only [VR] at hv ⊢
  simp only [avoidV] at hb
  rcases hv with hv | ⟨a,c,vs,rfl,hc,hs,hok,hh,hx⟩
  ·exact .inl hv
  ·exact .inr ⟨a,c,vs,rfl,hc,hs,fun hne=>unfill_ok (hok hne),hh,VRL.unfill xs vs hb hx⟩
 | .agg xs,v,hb,hv=>by
  simp only [VR] at hv ⊢
  simp only [avoidV] at hb
  obtain ⟨arr,rfl,hx⟩:=hv
  exact ⟨arr,rfl,VRL.unfill xs _ hb hx⟩
 | .tup xs,v,hb,hv=>by
  simp only [VR] at hv ⊢
  simp only [avoidV] at hb
  obtain ⟨arr,rfl,hx⟩:=hv
  exact ⟨arr,rfl,VRL.unfill xs _ hb hx⟩
 | .func fn f c,v,hb,hv=>by
  simp only [VR] at hv ⊢
  simp only [avoidV] at hb
  obtain ⟨f',c',rfl,h1,h2⟩:=hv
  exact ⟨f',c',rfl,VRL.unfill f _ hb.1 h1,VRL.unfill c _ hb.2 h2⟩
 | .iface t x,v,hb,hv=>by
  simp only [VR] at hv ⊢
  simp only [avoidV] at hb
  obtain ⟨y,rfl,hx⟩:=hv
  exact ⟨y,rfl,VR.unfill x y hb hx⟩
theorem VRL.unfill {C:Ctx} {S:Nat→Bool}:∀ (xs:List AV) (vs:List Value),avoidL S xs→VRL C xs vs→VRL (C.unfill S) xs vs
 | [],_,_,hv=>by simpa only [VRL] using hv
 | x :: xs,vs,hb,hv=>by
  simp only [VRL] at hv ⊢
  simp only [avoidL] at hb
  obtain ⟨y,ys,rfl,h1,h2⟩:=hv
  exact ⟨y,ys,rfl,VR.unfill x y hb.1 h1,VRL.unfill xs ys hb.2 h2⟩
end
structure Unfilled (S:Nat→Bool) (h h1:List ABlk):Prop where
 len:h1.length = h.length
 kept:∀ b,S b = true→b < h.length→h1[b]? = some .resv
 other:∀ b,S b = false→h1[b]? = h[b]?
 avoid:∀ b x,S b = false→h[b]? = some x→avoidB S x
theorem unfill_SR {C:Ctx} {S:Nat→Bool} {h h1:List ABlk} (hs:SR C h) (hu:Unfilled S h h1):SR (C.unfill S) h1:=by
 refine ⟨by rw [hu.len]; exact hs.len,fun b x hx=>?_,?_,?_,?_⟩
 ·have hlt:b < h.length:=by rw [← hu.len]; exact (List.getElem?_eq_some_iff.1 hx).1
  cases hS:S b with
  | true=>
   rw [hu.kept b hS hlt] at hx
   injection hx with hx; subst hx
   simp [BR,Ctx.unfill,hS]
  | false=>
   rw [hu.other b hS] at hx
   have ha:=hu.avoid b x hS hx
   have:=hs.blk b x hx
   have hρ:=unfill_ρ (C:=C) hS
   cases x with
   | row g sz xs=>
    obtain ⟨hp,l,arr,e,vs,q1,q2,q3,q4,q5,q6,q7,q8⟩:=this
    exact ⟨hp,l,arr,e,vs,hρ.trans q1,q2,q3,q4,q5,q6,q7,VRL.unfill _ _ ha q8⟩
   | map es=>
    obtain ⟨l,arr,clock,q1,q2,q3,q4,q5,q6,q7⟩:=this
    exact ⟨l,arr,clock,hρ.trans q1,q2,q3,VRL.unfill _ _ ha.1 q4,VRL.unfill _ _ ha.2 q5,q6,q7⟩
   | loop st pend env ps assign body=>
    obtain ⟨l,r,q1,q2,q3,q4,q5,q6,q7⟩:=this
    exact ⟨l,r,hρ.trans q1,q2,q3,q4,q5,VRL.unfill _ _ ha q6,q7⟩
   | defr=>
    obtain ⟨l,q1,q2,q3⟩:=this
    exact ⟨l,hρ.trans q1,q2,q3⟩
   | dead=>exact hρ.trans this
   | resv=>exact hρ.trans this
 ·intro b b' l l' hb hb' h1' h2' he
  cases hS:S b with
  | true=>simp [Ctx.unfill,hS] at h1'
  | false=>
   cases hS':S b' with
   | true=>simp [Ctx.unfill,hS'] at h2'
   | false=>
    rw [unfill_ρ hS] at h1'
    rw [unfill_ρ hS'] at h2'
    exact hs.inj b b' l l' hb hb' h1' h2' he
 ·intro blk hf
  obtain ⟨q1,q2⟩:=hs.forb blk hf
  exact ⟨q1,fun ho=>q2 (unfill_owned ho)⟩
 ·intro b
  cases hS:S b with
  | true=>
   constructor
   ·rintro (hr | ⟨_,hlt⟩)
    ·exact hu.kept b hS (List.getElem?_eq_some_iff.1 ((hs.res b).1 hr)).1
    ·exact hu.kept b hS (by rw [hs.len]; exact hlt)
   ·intro hx
    exact .inr ⟨hS,by have:=(List.getElem?_eq_some_iff.1 hx).1; rw [hu.len,hs.len] at this; exact this⟩
  | false=>
   rw [hu.other b hS]
   simp only [Ctx.unfill,hS,Bool.false_eq_true,false_and,or_false]
   exact hs.res b
theorem unfill_ext {C0 C:Ctx} {S:Nat→Bool} {h0:List ABlk} (hs0:SR C0 h0) (h:Ext C0 C) (hS:∀ b,S b = true→b < h0.length→h0[b]? = some .resv):Ext C0 (C.unfill S) where
 forb:=h.forb
 n:=h.n
 size:=h.size
 same:=h.same
 image blk ho:=h.image blk (unfill_owned ho)
 born b hb:=unfill_born (by
  cases hSb:S b with
  | false=>rfl
  | true=>exact absurd ((hs0.res b).2 (hS b hSb (by rw [hs0.len]; exact hb.1))) hb.2) (h.born b hb)
 ρ b hb l' hl':=by
  have hSb:S b = false:=by
   cases hSb:S b with
   | false=>rfl
   | true=>exact absurd ((hs0.res b).2 (hS b hSb (by rw [hs0.len]; exact hb.1))) hb.2
  rw [unfill_ρ hSb] at hl'
  exact h.ρ b hb l' hl'
 tape:=h.tape
 os:=h.os
 output:=h.output
def avoidD (S:Nat→Bool):List ADef→Prop
 | []=>True
 | .mark b :: l=>S b = false∧avoidD S l
 | .call .. :: _=>False
theorem DR.unfill {C:Ctx} {S:Nat→Bool}:∀ {xs:List ADef} {ds:List Deferred},avoidD S xs→DR C xs ds→DR (C.unfill S) xs ds
 | [],[],_,_=>trivial
 | [],_ :: _,_,h=>h.elim
 | .mark b :: xs,[],_,h=>h.elim
 | .mark b :: xs,d :: ds,ha,h=>by
  obtain ⟨⟨h1,h2,r,h3,h4⟩,h5⟩:=h
  exact ⟨⟨unfill_born ha.1 h1,h2,r,h3,fun l hl=>h4 l (by rwa [unfill_ρ ha.1] at hl)⟩,DR.unfill ha.2 h5⟩
 | .call .. :: xs,_,ha,_=>ha.elim
end Go.AL
namespace Go.AL
open Go
variable {P:Program}
def unf (S:Nat→Bool):Nat→List ABlk→List ABlk
 | _,[]=>[]
 | i,b :: l=>(bif S i then .resv else b) :: unf S (i + 1) l
def avoidP (S:Nat→Bool):Nat→List ABlk→Prop
 | _,[]=>True
 | i,b :: l=>(match S i with
  | true=>True
  | false=>avoidB S b)∧avoidP S (i + 1) l
def AllD:List ABlk→Prop
 | []=>True
 | b :: l=>(b = .defr ∨ b = .dead)∧AllD l
theorem unf_length {S:Nat→Bool}:∀ {l:List ABlk} {i:Nat},(unf S i l).length = l.length
 | [],_=>rfl
 | _ :: l,i=>by simp [unf,unf_length (l:=l)]
theorem unf_get {S:Nat→Bool}:∀ {l:List ABlk} {i k:Nat},(unf S i l)[k]? = (l[k]?).map fun b=>bif S (i + k) then .resv else b
 | [],_,_=>by simp [unf]
 | b :: l,i,0=>by simp [unf]
 | b :: l,i,k + 1=>by
  simp only [unf,List.getElem?_cons_succ]
  rw [unf_get (l:=l)]
  rw [show i + 1 + k = i + (k + 1) by omega]
theorem avoidP_get {S:Nat→Bool}:∀ {l:List ABlk} {i k:Nat} {x:ABlk},avoidP S i l→l[k]? = some x→S (i + k) = false→avoidB S x
 | [],_,_,_,_,h,_=>by simp at h
 | b :: l,i,0,x,ha,h,hS=>by
  simp at h
  subst h
  have:=ha.1
  rw [show S i = false by simpa using hS] at this
  exact this
 | b :: l,i,k + 1,x,ha,h,hS=>avoidP_get (l:=l) (i:=i + 1) ha.2 (by simpa using h) (by rw [show i + 1 + k = i + (k + 1) by omega]; exact hS)
theorem AllD.get:∀ {l:List ABlk} {k:Nat} {x:ABlk},AllD l→l[k]? = some x→x = .defr ∨ x = .dead
 | [],_,_,_,h=>by simp at h
 | b :: l,0,x,ha,h=>by simp at h; subst h; exact ha.1
 | b :: l,k + 1,x,ha,h=>AllD.get ha.2 (by simpa using h)
theorem AllD.append:∀ {l l':List ABlk},AllD l→AllD l'→AllD (l ++ l')
 | [],_,_,h=>h
 | _ :: l,_,h,h'=>⟨h.1,AllD.append h.2 h'⟩
theorem avoid_dead {S:Nat→Bool} {x:ABlk} (h:x = .defr ∨ x = .dead):avoidB S x:=by rcases h with rfl | rfl <;> trivial
theorem Unfilled.pool {S:Nat→Bool} {l J:List ABlk} (ha:avoidP S 0 l) (hJ:AllD J) (hS:∀ b,l.length≤b→S b = false):Unfilled S (l ++ J) (unf S 0 l ++ J):=by
 refine ⟨by simp [unf_length],fun b hb hlt=>?_,fun b hb=>?_,fun b x hb hx=>?_⟩
 ·have hbl:b < l.length:=by
   rcases Nat.lt_or_ge b l.length with h | h
   ·exact h
   ·rw [hS b h] at hb; cases hb
  rw [List.getElem?_append_left (by rw [unf_length]; exact hbl),unf_get]
  simp [hbl,hb]
 ·rcases Nat.lt_or_ge b l.length with h | h
  ·rw [List.getElem?_append_left (by rw [unf_length]; exact h),List.getElem?_append_left h,unf_get]
   simp [h,hb]
  ·rw [List.getElem?_append_right (by rw [unf_length]; exact h),List.getElem?_append_right h,unf_length]
 ·rcases Nat.lt_or_ge b l.length with h | h
  ·rw [List.getElem?_append_left h] at hx
   exact avoidP_get ha hx (by simpa using hb)
  ·rw [List.getElem?_append_right h] at hx
   exact avoid_dead (hJ.get hx)
def avoidA (S:Nat→Bool):List (Nat×AV)→Prop
 | []=>True
 | p :: l=>avoidV S p.2∧avoidA S l
theorem avoidA_get {S:Nat→Bool}:∀ {l:List (Nat×AV)},avoidA S l→∀ t,avoidV S (aget l t)
 | [],_,t=>by simp only [aget,avoidV]
 | p :: l,h,t=>by
  obtain ⟨k,v⟩:=p
  simp only [aget]
  split
  ·exact h.1
  ·exact avoidA_get h.2 t
variable {rd:Option Nat} {N:Nat} {al al' al1:List (Nat×AV)} {df df':List ADef} {h h' h1:List ABlk}
theorem AExec.unfillTo {c:Code} {env:List AV} {x:AX} (S:Nat→Bool) (hx:AExec P rd c env df h ⟨x,lst N al',df',h'⟩) (hok:XOk x) (hS:∀ b,S b = true→b < h.length→h[b]? = some .resv) (hu:Unfilled S h' h1) (hl:leA al' al1) (ha:avoidA S al1) (hd:avoidD S df') :
  AExec P rd c env df h ⟨x,lst N al1,df',h1⟩:=by
 intro F n C tmps defers hF hs he hdd
 refine wpIn_mono (hx F n C tmps defers hF hs he hdd) ?_
 rintro e a' w ⟨C',q1,q2,q3,q4,q5,q6⟩
 refine ⟨C'.unfill S,q1,unfill_ext hs q2 hS,unfill_SR q3 hu,?_,VRL.unfill _ _ (avoidL_iff.2 ?_) (VRL.leA hl q5),DR.unfill hd q6⟩
 ·cases x <;> simp only [XOk] at hok <;> simpa only [XR] using q4
 ·intro v hv
  simp only [lst,List.mem_map] at hv
  obtain ⟨t,_,rfl⟩:=hv
  exact avoidA_get ha t
def Wk (S:Nat→Bool) (al1:List (Nat×AV)) (D:List ADef) (h1:List ABlk) (al':List (Nat×AV)) (df':List ADef) (h':List ABlk):Prop:=
 df' = D∧leA al' al1∧(h' = h1 ∨ (Unfilled S h' h1∧avoidA S al1∧avoidD S D))
theorem AExec.wk {c:Code} {env:List AV} {x:AX} {S:Nat→Bool} {D:List ADef} (hx:AExec P rd c env df h ⟨x,lst N al',df',h'⟩) (hok:XOk x) (hS:∀ b,S b = true→b < h.length→h[b]? = some .resv) (hw:Wk S al1 D h1 al' df' h') :
  AExec P rd c env df h ⟨x,lst N al1,D,h1⟩:=by
 obtain ⟨rfl,hl,rfl | ⟨hu,ha,hd⟩⟩:=hw
 ·intro F n C tmps defers hF hs he hdd
  refine wpIn_mono (hx F n C tmps defers hF hs he hdd) ?_
  rintro e a' w ⟨C',q1,q2,q3,q4,q5,q6⟩
  exact ⟨C',q1,q2,q3,q4,VRL.leA hl q5,q6⟩
 ·exact AExec.unfillTo S hx hok hS hu hl ha hd
theorem SX.rangeF {g:Operand} {ps:Array Tmp} {assign body:Code} {f:FuncId} {first captured:List AV} {v:AV} {h2:List ABlk} {e2:List AV} {ps2:Array Tmp} {assign2 body2:Code} {Q:AX→List (Nat×AV)→List ADef→List ABlk→Prop} (lb:Nat)
  (hlr:h[lb]? = some .resv) (hlt:tmpLt N g = true) (hg:avA al g = .func (.func f) first captured) (hcal:callable P f = true)
  (hcall:ACall P f (first ++ [.yield lb] ++ captured) ((h ++ [ABlk.defr]).set lb (.loop .ready none (lst N al) ps assign body)) (.ret v) h2)
  (hb2:h2[lb]? = some (.loop .ready none e2 ps2 assign2 body2))
  (hq:Q .normal al (.mark h.length :: df) (h2.set lb (.loop .exhausted none e2 ps2 assign2 body2))) :
  SX P none (.rangeFunc g ps assign body) N al df h Q:=
 ⟨.normal,al,_,_,AExec.rangeFunc_fill lb hlr (by rw [avA_eq hlt]; exact hg) hcal hcall hb2 (by simp) rfl,rdNone,hq⟩
theorem rdS {l:Nat} {h:List ABlk} (hl:isLoop h[l]? = true):RdOk (some l) h:=fun k hk=>by injection hk with hk; subst hk; exact hl
theorem ARound.of_SX {l:Nat} {arg:AV} {t:Tmp} {assign body:Code} {al1:List (Nat×AV)} {h1 h2:List ABlk} (hN:t < N) (hl:h[l]? = some (.loop .ready none (lst N al) #[t] assign body))
  (ha:SX P (some l) assign N ((t,arg) :: al) [] h fun x al' df' h'=>x = .normal∧df' = []∧leA al' al1∧h' = h1) (hl1:h1[l]? = some (.loop .ready none (lst N al) #[t] assign body))
  (hb:SX P (some l) body N al1 [] (h1.set l (.loop .busy none (lst N al) #[t] assign body)) fun x al' df' h'=>x = .normal∧df' = []∧h' = h2)
  (hl2:h2[l]? = some (.loop .busy none (lst N al) #[t] assign body)):ARound P l [arg] h true (h2.set l (.loop .ready none (lst N al) #[t] assign body)):=by
 obtain ⟨x,al',df',h',g1,_,rfl,rfl,gl,rfl⟩:=ha
 obtain ⟨x2,al2,df2,h2',f1,_,rfl,rfl,rfl⟩:=hb
 have hset:setParams (lst N al) ((#[t]:Array Tmp).toList.zip [arg]) = lst N ((t,arg) :: al):=by
  show (lst N al).set t arg = _
  exact lst_put (dst:=some t) (v:=arg) (al:=al) (N:=N) (by simpa [dstLt] using hN)
 have g2:AExec P (some l) assign (lst N ((t,arg) :: al)) [] h ⟨.normal,lst N al1,[],h'⟩:=by
  intro F n C tmps defers hF hs he hdd
  refine wpIn_mono (g1 F n C tmps defers hF hs he hdd) ?_
  rintro e a' w ⟨C',q1,q2,q3,q4,q5,q6⟩
  exact ⟨C',q1,q2,q3,q4,VRL.leA gl q5,q6⟩
 exact ⟨lst N al,lst N al1,lst N al2,[],#[t],#[t],#[t],assign,body,assign,body,assign,body,none,none,none,h',h2',.normal,none,lst N al,lst N al,
  hl,rfl,by rw [hset]; exact g2,hl1,f1,hl2,rfl,rfl,rfl⟩
end Go.AL
namespace Go.AL
open Go
variable {P:Program}
theorem AStep.unfill {rd:Option Nat} {o:Oper} {ρ:Operand→AV} {df df':List ADef} {h h' h1:List ABlk} {v:AV} (S:Nat→Bool) (hx:AStep P rd o ρ df h v df' h') (hS:∀ b,S b = true→b < h.length→h[b]? = some .resv) (hu:Unfilled S h' h1) (hv:avoidV S v) (hd:avoidD S df') :
  AStep P rd o ρ df h v df' h1:=by
 intro F n C a next Q hF hs he hdd hq
 refine hx F n C a next Q hF hs he hdd ?_
 intro C' v' ds hext hs' hv' hd'
 exact hq (C'.unfill S) v' ds (unfill_ext hs hext hS) (unfill_SR hs' hu) (VR.unfill _ _ hv hv') (DR.unfill hd hd')
structure YOk (P:Program) {W α:Type} (l:Nat) (av:α→AV) (T:W→List ABlk) (step:W→α→Option W) (k:Nat) (S:Nat→Bool):Prop where
 run:∀ (w:W) (v:α) (w':W),step w v = some w'→∀ (own J:List ABlk) (rd:Option Nat) (o:Oper) (ρ:Operand→AV) (df:List ADef) (c:Call) (g:Operand),own.length = k→(∀ b ∈ own,avoidB S b)→AllD J→avoidD S df →
  o.op = .call c→c.callee = .value g→ρ g = .yield l→c.args.toList.map ρ = [av v]→AStep P rd o ρ df (own ++ (T w ++ J)) (.bool true) df (own ++ (T w' ++ J))
variable {N:Nat} {al:List (Nat×AV)} {df:List ADef} {all:Array Oper} {k:Nat} {o:Oper} {os:List Oper} {Q:AX→List (Nat×AV)→List ADef→List ABlk→Prop}
theorem SOps.yield {W α:Type} {l m:Nat} {av:α→AV} {T:W→List ABlk} {step:W→α→Option W} {S:Nat→Bool} {own J:List ABlk} {w w':W} {v:α} {c:Call} {g:Operand} (hy:YOk P l av T step m S) (hf:fitsN N all o = true) (hw:wantedA all al o = some true) (ho:o.op = .call c) (hc:c.callee = .value g) (hg:avA al g = .yield l)
  (ha:c.args.toList.map (avA al) = [av v]) (hown:own.length = m) (hav:∀ b ∈ own,avoidB S b) (hJ:AllD J) (hd:avoidD S df) (hs:step w v = some w')
  (h2:SOps P none all (k + 1) os N (putA al o.dst (.bool true)) df (own ++ (T w' ++ J)) Q):SOps P none all k (o :: os) N al df (own ++ (T w ++ J)) Q:=by
 have hf':=hf
 simp only [fitsN,Bool.and_eq_true] at hf'
 have hx:=avA_op (al:=al) hf'.1.2
 rw [ho] at hx
 have hg':aval (lst N al) g = .yield l:=by
  rw [hx g (by simp only [Op.operands,Call.operands,hc]; simp)]; exact hg
 have ha':c.args.toList.map (aval (lst N al)) = [av v]:=by
  rw [← ha]
  exact List.map_congr_left fun y hy=>hx y (by simp only [Op.operands,Call.operands]; cases c.callee <;> simp <;> (try right) <;> simpa using hy)
 exact SOps.step hf hw (hy.run w v w' hs own J none o _ df c g hown hav hJ hd ho hc hg' ha') rdNone h2
def Done (P:Program) (fn:Func) (h1:List ABlk):AX→List (Nat×AV)→List ADef→List ABlk→Prop:=fun x al df h=>(x = .normal ∨ x = .ret)∧df = []∧h = h1
theorem ACall.done {f:FuncId} {fn:Func} {c:Code} {args:List AV} {h h1:List ABlk} (hf:P.funcs[f]? = some fn) (hb:fn.body = some c) (hres:fn.results = #[]) {al:List (Nat×AV)}
  (hal:args ++ List.replicate (fn.ntmps - args.length) .poison = lst fn.ntmps al) (hx:SX P none c fn.ntmps al [] h (Done P fn h1)):ACall P f args h (.ret (.tup [])) h1:=by
 obtain ⟨x,al',df',h2,g1,_,hx,rfl,rfl⟩:=hx
 have hr:resultsV P (lst fn.ntmps al') h2 fn.results.toList = some []:=by rw [hres]; rfl
 rcases hx with rfl | rfl
 ·exact ACall.of_body (out:=⟨.normal,lst fn.ntmps al',[],h2⟩) (m:=.returning) hf hb (by rw [hal]; exact g1) rfl (ALeave.ret hr)
 ·exact ACall.of_body (out:=⟨.ret,lst fn.ntmps al',[],h2⟩) (m:=.returning) hf hb (by rw [hal]; exact g1) rfl (ALeave.ret hr)
end Go.AL
namespace Go.AL
open Go
variable {P:Program}
structure Layout where
 scope:Scope
 sp:Spec
 b:List Bound
 free:List Pair
def Layout.cells (l:Layout):List AV:=l.scope.cells ++ l.sp.cells ++ [.vw 4 (l.b.map Bound.av),.vw 2 (l.free.map Pair.av)]
def Layout.av (l:Layout):AV:=.agg l.cells
structure Entry where
 variable_:Int
 state:Int
 field:Int
 rank:Int
def Entry.av (e:Entry):AV:=.agg [.int .i64 e.variable_,.int .i64 e.state,.int .i64 e.field,.int .i64 e.rank]
theorem Scope.cells_apart (s:Scope):ApartL s.cells:=.cons (.vw .ints) (.cons .int .nil)
theorem Layout.apart (l:Layout):ApartV l.av:=.agg (ApartL.append (ApartL.append l.scope.cells_apart l.sp.cells_apart) (.cons (.vw (ApartL.map fun x _=>x.apart)) (.cons (.vw (ApartL.map fun x _=>x.apart)) .nil)))
theorem Entry.apart (e:Entry):ApartV e.av:=.agg (.cons .int (.cons .int (.cons .int (.cons .int .nil))))
theorem Layout.belowN (n:Nat) (l:Layout):belowV n l.av:=by
 simp only [Layout.av,Layout.cells,Scope.cells,Spec.cells,belowV,belowL,List.cons_append,List.nil_append,below_ints,true_and,and_true]
 exact ⟨belowL_map (Sort'.belowN n),belowL_map (Field.belowN n),belowL_map (Pred.belowN n),belowL_map (Fact.belowN n),belowL_map (Bound.belowN n),belowL_map (Pair.belowN n)⟩
theorem Entry.belowN (n:Nat) (e:Entry):belowV n e.av:=by simp only [Entry.av,belowV,belowL,and_self]
theorem FrozenV.ptr {h:List ABlk} {b g sz:Nat} {x x':AV} {cs:List AV} (hb:h[b]? = some (.row g sz [x])) (hc:cellsV x = some cs) (hlen:cs.length ≠ 0) (hx:FrozenV h x x'):FrozenV h (.ptr b g 0 0) (.rptr x'):=fun C C2 y hs ho hy=>by
 simp only [VR] at hy ⊢
 obtain ⟨hbn,a,rfl,ha⟩:=hy
 obtain ⟨hp,l,arr,e,vs,r1,r2,r3,r4,r5,r6,r7,r8⟩:=hs.blk b _ hb
 have ha':=(ha l r1).2 r2.symm
 simp only [VRL] at r8
 obtain ⟨z,zs,rfl,h1,rfl⟩:=r8
 have hz:=r7 0 (by simp)
 simp only [List.getElem_cons_zero] at hz
 obtain ⟨hcl,_⟩:=cellsV_sound hc h1
 have hcl':=hcl.length
 simp only [Array.length_toList] at hcl'
 refine ⟨a,z,rfl,by rw [ha'],by rw [ha']; exact ho.owned b l hbn.1 r1,by omega,?_,hx C C2 z hs ho h1⟩
 rw [ha',ho.w]
 simpa using hz.2
theorem FrozenV.func {h:List ABlk} {fn:Fn} {f f' c c':List AV} (hf:FrozenL h f f') (hc:FrozenL h c c'):FrozenV h (.func fn f c) (.func fn f' c'):=fun C C2 y hs ho hy=>by
 simp only [VR] at hy ⊢
 obtain ⟨f',c',rfl,h1,h2⟩:=hy
 exact ⟨f',c',rfl,hf C C2 _ hs ho h1,hc C C2 _ hs ho h2⟩
end Go.AL
namespace Go.AL
open Go
variable {P:Program}
def Mk (n0:Nat):List ADef→List ABlk→Prop
 | [],J=>AllD J
 | .mark b :: D,J=>∃ J' K,AllD K∧J = J' ++ (ABlk.defr :: K)∧b = n0 + J'.length∧Mk n0 D J'
 | .call .. :: _,_=>False
theorem Mk.avoid {S:Nat→Bool} {n0:Nat} (hS:∀ b,n0≤b→S b = false):∀ {D:List ADef} {J:List ABlk},Mk n0 D J→avoidD S D
 | [],_,_=>trivial
 | .mark b :: D,J,h=>by
  obtain ⟨J',K,_,_,rfl,h⟩:=h
  exact ⟨hS _ (by omega),Mk.avoid hS h⟩
 | .call .. :: _,_,h=>h.elim
theorem Mk.push {n0:Nat} {D:List ADef} {J:List ABlk} {b:Nat} (h:Mk n0 D J) (hb:b = n0 + J.length):Mk n0 (.mark b :: D) (J ++ [ABlk.defr]):=⟨J,[],trivial,rfl,hb,h⟩
theorem Mk.pushK {n0:Nat} {D:List ADef} {J K:List ABlk} {b:Nat} (h:Mk n0 D J) (hK:AllD K) (hb:b = n0 + J.length):Mk n0 (.mark b :: D) (J ++ ([ABlk.defr] ++ K)):=⟨J,K,hK,rfl,hb,h⟩
theorem Mk.leave {fn:Func} {env:List AV} {Pp:List ABlk} {e:AEnd}:∀ {D:List ADef} {J K:List ABlk},Mk Pp.length D J→AllD K →
  (∀ K',AllD K'→ALeave P fn env [] .returning (Pp ++ K') e (Pp ++ K'))→∃ K',AllD K'∧ALeave P fn env D .returning (Pp ++ (J ++ K)) e (Pp ++ K')
 | [],J,K,hm,hK,hr=>⟨J ++ K,AllD.append hm hK,hr _ (AllD.append hm hK)⟩
 | .mark b :: D,J,K,hm,hK,hr=>by
  obtain ⟨J',K0,hK0,rfl,rfl,hm⟩:=hm
  obtain ⟨K',h1,h2⟩:=Mk.leave (fn:=fn) (env:=env) (K:=ABlk.dead :: (K0 ++ K)) hm ⟨.inr rfl,AllD.append hK0 hK⟩ hr
  refine ⟨K',h1,ALeave.mark ?_ ?_⟩
  ·rw [List.getElem?_append_right (by omega)]
   simp
  ·have:(Pp ++ (J' ++ (ABlk.defr :: K0) ++ K)).set (Pp.length + J'.length) .dead = Pp ++ (J' ++ ABlk.dead :: (K0 ++ K)):=by
    rw [List.set_append_right _ _ (by omega)]
    simp
   rw [this]
   exact h2
 | .call .. :: _,_,_,hm,_,_=>hm.elim
variable {N:Nat} {al:List (Nat×AV)} {df:List ADef} {h h':List ABlk} {all:Array Oper} {k:Nat} {o:Oper} {os:List Oper} {Q:AX→List (Nat×AV)→List ADef→List ABlk→Prop}
theorem SOps.fill {rd:Option Nat} {v:AV} (b:Nat) (hf:fitsN N all o = true) (hw:wantedA all al o = some true) (hl:resvV P b (avA al) h o.op = some (v,h')) (hr:RdOk rd h') (h2:SOps P rd all (k + 1) os N (putA al o.dst v) df h' Q):SOps P rd all k (o :: os) N al df h Q:=by
 have hf':=hf
 simp only [fitsN,Bool.and_eq_true] at hf'
 exact SOps.step hf hw (AStep.fill (b:=b) (by rw [resvV_congr (avA_op hf'.1.2)]; exact hl)) hr h2
theorem AStep.grow1 {rd:Option Nat} {o:Oper} {ρ:Operand→AV} {df:List ADef} {h:List ABlk} {args:Array Operand} {ats:Array TypeId} {s x:Operand} {b:Nat} {xs:List AV} {y:AV} {E:ElemT} (ho:o.op = .call { callee:=.builtin .append,args:=args,argTypes:=ats })
  (hargs:args.toList = [s,x]) (hs:ρ s = osl b (xs.length - 1) xs) (hb:h[b]? = some (oblk E.size (xs.length - 1) xs)) (hE:(ats[0]?).bind (elemT P) = some E) (hp:plainArg P ats = true) (hys:contentV h E.size (ρ x) = some [y])
  (hsolid:solidElems [y] E.size = true) (hg:growOk E (xs.length + 1) = true):AStep P rd o ρ df h (osl b xs.length (xs ++ [y])) df (h.set b (oblk E.size xs.length (xs ++ [y]))):=by
 by_cases hx:xs = []
 ·subst hx
  rw [List.nil_append]
  obtain ⟨dst,op,ty,pos,after,guard⟩:=o
  simp only at ho
  subst ho
  refine AStep.of_run (fun c e=>by cases e) fun C σ hsr hσ=>?_
  have:=list_two hargs; subst this
  have hsv:=hσ s
  rw [hs] at hsv
  obtain ⟨C',v',hr,h1,h2,h3⟩:=append_fill (ty:=ty) hsr hb hE hp hys (by simp) (by simpa using hg) hsv (hσ x)
  exact ⟨C',v',.inl (by simp [execOp,resolve,invoke,builtin,hr]),h1,h2,h3⟩
 ·have hpos:0 < xs.length:=List.length_pos_iff.2 hx
  have hxy:xs ++ [y] ≠ []:=by simp
  refine AStep.heavy ?_
  rw [ho]
  rw [osl_ne hx] at hs
  rw [oblk_ne hx] at hb
  rw [osl_ne hxy,oblk_ne hxy]
  simp only [heavyV,hargs,appendV,hE,hp,hys,hs]
  have e1:xs.length - 1 + 1 = xs.length:=by omega
  simp [contentV,rowAt,hb,hsolid,hg,e1]
theorem SOps.grow1M {α:Type} {rd:Option Nat} {f:α→AV} {xs zs:List α} {y:α} {args:Array Operand} {ats:Array TypeId} {s x:Operand} {b:Nat} {E:ElemT} (hf:fitsN N all o = true) (hw:wantedA all al o = some true)
  (ho:o.op = .call { callee:=.builtin .append,args:=args,argTypes:=ats }) (hargs:args.toList = [s,x]) (hE:(ats[0]?).bind (elemT P) = some E) (hp:plainArg P ats = true) (hs:avA al s = osl b (xs.length - 1) (xs.map f)) (hblk:h[b]? = some (oblk E.size (xs.length - 1) (xs.map f)))
  (hys:contentV h E.size (avA al x) = some [f y]) (hsolid:solidElems [f y] E.size = true) (hb:Nat.ble E.bytes 65536 = true) (ha:app xs [y] = some zs) (hr:RdOk rd (h.set b (oblk E.size (zs.length - 1) (zs.map f))))
  (h2:SOps P rd all (k + 1) os N (putA al o.dst (osl b (zs.length - 1) (zs.map f))) df (h.set b (oblk E.size (zs.length - 1) (zs.map f))) Q):SOps P rd all k (o :: os) N al df h Q:=by
 obtain ⟨h1,rfl⟩:=appE ha
 have e:(xs ++ [y]).length - 1 = xs.length:=by simp
 rw [e,List.map_append,List.map_singleton] at h2 hr
 have hf':=hf
 simp only [fitsN,Bool.and_eq_true] at hf'
 have hx:=avA_op (al:=al) hf'.1.2
 have hmem:∀ y,y ∈ args.toList→aval (lst N al) y = avA al y:=fun y hy=>hx y (by
  rw [ho]; simp only [Op.operands,Call.operands]; simpa using hy)
 have hl:(xs.map f).length = xs.length:=by simp
 have:=AStep.grow1 (P:=P) (rd:=rd) (df:=df) (ρ:=aval (lst N al)) (xs:=xs.map f) (y:=f y) (b:=b) (h:=h) (E:=E) ho hargs (by rw [hmem s (by simp [hargs]),hl]; exact hs) (by rw [hl]; exact hblk) hE hp (by rw [hmem x (by simp [hargs])]; exact hys) hsolid (grow_bound hb (by simpa using h1))
 rw [hl] at this
 exact SOps.step hf hw this hr h2
theorem SX.iterD {S X G:Type} {body:S→Option (Out S X Unit)} {F:Nat} {s0:S} {o:X ⊕ Unit} {c:Code} {id:Nat} (AL:S→G→List (Nat×AV)) (D:G→List ADef) (H:S→G→List ABlk) (ALX:X→G→List (Nat×AV)) (HX:X→G→List ABlk) (Sf:Nat→Bool)
  (g0:G) (ho:runs body F s0 = some o) (hal:al = AL s0 g0) (hd:df = D g0) (hh:h = H s0 g0) (hS:∀ s g b,Sf b = true→b < (H s g).length→(H s g)[b]? = some .resv)
  (hround:∀ s g out,body s = some out→SX P none c N (AL s g) (D g) (H s g) fun x al' df' h'=>match x with
   | .normal=>∃ s' g',out = .next s'∧Wk Sf (AL s' g') (D g') (H s' g') al' df' h'
   | .exit i=>i = id∧∃ e g',out = .exit e∧Wk Sf (ALX e g') (D g') (HX e g') al' df' h'
   | _=>False)
  (hexit:∀ e g,o = .inl e→Q .normal (ALX e g) (D g) (HX e g)):SX P none (.block id (.loop c)) N al df h Q:=by
 subst hal hd hh
 have key:∀ (F:Nat) (s:S) (g:G),runs body F s = some o→∃ e g',LoopTo P none c (lst N (AL s g)) (D g) (H s g) ⟨.exit id,lst N (ALX e g'),D g',HX e g'⟩∧o = .inl e:=by
  intro F
  induction F with
  | zero=>intro s g hi; simp [runs] at hi
  | succ F ih=>
   intro s g hi
   simp only [runs] at hi
   cases hb:body s with
   | none=>rw [hb] at hi; cases hi
   | some out=>
    rw [hb] at hi
    obtain ⟨x,al',df',h',g1,_,g3⟩:=hround s g out hb
    cases x with
    | normal=>
     obtain ⟨s',g',rfl,hw⟩:=g3
     obtain ⟨e,g2,f1,f2⟩:=ih s' g' hi
     exact ⟨e,g2,.more (g1.wk trivial (hS s g) hw) rdNone f1,f2⟩
    | exit i=>
     obtain ⟨rfl,e,g',rfl,hw⟩:=g3
     injection hi with hi
     exact ⟨e,g',.stop (g1.wk trivial (hS s g) hw) (by simp),hi.symm⟩
    | ret=>exact g3.elim
    | panic v=>exact g3.elim
    | goto l=>exact g3.elim
 obtain ⟨e,g',g1,he⟩:=key F s0 g0 ho
 refine ⟨.normal,ALX e g',D g',HX e g',?_,rdNone,hexit e g' he⟩
 have:=AExec.block (id:=id) (AExec.loop g1)
 simpa [AX.inBlock] using this
def RetD (P:Program) (fn:Func) (v:AV):AX→List (Nat×AV)→List ADef→List ABlk→Prop:=fun x al' df' h'=>
 x = .ret∧∃ (Pp J:List ABlk) (vs:List AV),h' = Pp ++ J∧Mk Pp.length df' J∧(∀ K,AllD K→resultsV P (lst fn.ntmps al') (Pp ++ K) fn.results.toList = some vs)∧∀ K,AllD K→FrozenV (Pp ++ K) (packV vs) v
theorem ACall.mirD {f:FuncId} {fn:Func} {c:Code} {args:List AV} {v:AV} (k:Nat) (hf:P.funcs[f]? = some fn) (hb:fn.body = some c) (ha:ApartL args) {al:List (Nat×AV)}
  (hal:args ++ List.replicate (fn.ntmps - args.length) .poison = lst fn.ntmps al) (hx:SX P none c fn.ntmps al [] (List.replicate k .resv) (RetD P fn v)) (h:List ABlk):ACall P f args h (.ret v) h:=by
 obtain ⟨x,al',df',h2,g1,_,rfl,Pp,J,vs,rfl,hm,hr,hfz⟩:=hx
 obtain ⟨K',hK,hl⟩:=Mk.leave (P:=P) (fn:=fn) (env:=lst fn.ntmps al') (K:=[]) (e:=.ret (packV vs)) hm trivial (fun K hK=>ALeave.ret (hr K hK))
 rw [List.append_nil] at hl
 refine ACall.apart ha (ACall.of_body (out:=⟨.ret,lst fn.ntmps al',df',Pp ++ J⟩) (m:=.returning) hf hb ?_ rfl hl) (hfz K' hK)
 rw [hal]
 exact AExec.keepFor k rdNone (by simpa using g1)
end Go.AL
namespace Go.AL
theorem avoid_osl {S:Nat→Bool} {b g:Nat} {xs:List AV} (hb:S b = false):avoidV S (osl b g xs):=by
 cases xs with
 | nil=>simp only [osl,avoidV]
 | cons x xs=>simp only [osl,avoidV]; exact hb
theorem avoid_oblk {S:Nat→Bool} {sz g:Nat} {xs:List AV} (h:avoidL S xs):avoidB S (oblk sz g xs):=by
 cases xs with
 | nil=>simp only [oblk,avoidB]
 | cons x xs=>simpa only [oblk,avoidB] using h
theorem avoid_ints {S:Nat→Bool} {l:List Int}:avoidL S (ints l):=avoidL_map fun _=>by simp only [avoidV]
theorem Rel.avoid (S:Nat→Bool) (r:Rel):avoidV S r.av:=by simp only [Rel.av,Rel.cells,avoidV,avoidL,avoid_ints,and_self]
theorem Bound.avoid (S:Nat→Bool) (r:Bound):avoidV S r.av:=by simp only [Bound.av,avoidV,avoidL,avoid_ints,and_self]
theorem Pair.avoid (S:Nat→Bool) (r:Pair):avoidV S r.av:=by simp only [Pair.av,avoidV,avoidL,and_self]
theorem Scope.avoid (S:Nat→Bool) (r:Scope):avoidV S r.av:=by simp only [Scope.av,Scope.cells,avoidV,avoidL,avoid_ints,and_self]
theorem Entry.avoid (S:Nat→Bool) (r:Entry):avoidV S r.av:=by simp only [Entry.av,avoidV,avoidL,and_self]
end Go.AL
namespace Go.AL
theorem avoid_navs (S:Nat→Bool):∀ (l:List Node),avoidL S (navs l):=fun l=>by
 rw [navs_eq]
 have:∀ n:Node,avoidV S n.av:=fun n=>by
  refine Node.rec (motive_1:=fun n=>avoidV S n.av) (motive_2:=fun l=>avoidL S (navs l)) ?_ ?_ ?_ n
  ·intro op name k kids pos ih; simp only [Node.av,avoidV,avoidL,true_and,and_true]; exact ih
  ·simp only [navs,avoidL]
  ·intro n ns h1 h2; simp only [navs,avoidL]; exact ⟨h1,h2⟩
 exact avoidL_map this
theorem Sort'.avoid (S:Nat→Bool) (r:Sort'):avoidV S r.av:=by simp only [Sort'.av,avoidV,avoidL,and_self]
theorem Field.avoid (S:Nat→Bool) (r:Field):avoidV S r.av:=by simp only [Field.av,avoidV,avoidL,avoid_ints,and_self]
theorem Param.avoid (S:Nat→Bool) (r:Param):avoidV S r.av:=by simp only [Param.av,avoidV,avoidL,and_self]
theorem Node.cells_avoid (S:Nat→Bool) (r:Node):avoidL S r.cells:=by simp only [Node.cells,avoidV,avoidL,true_and,and_true]; exact avoid_navs S _
theorem Pred.avoid (S:Nat→Bool) (r:Pred):avoidV S r.av:=by
 simp only [Pred.av,avoidV,avoidL,List.cons_append,List.nil_append,true_and]; exact ⟨avoidL_map (Param.avoid S),r.body.cells_avoid S⟩
theorem Fact.avoid (S:Nat→Bool) (r:Fact):avoidV S r.av:=by
 simp only [Fact.av,avoidV,avoidL,List.cons_append,List.nil_append,true_and]; exact r.body.cells_avoid S
theorem Spec.cells_avoid (S:Nat→Bool) (s:Spec):avoidL S s.cells:=by
 simp only [Spec.cells,avoidV,avoidL,and_true]; exact ⟨avoidL_map (Sort'.avoid S),avoidL_map (Field.avoid S),avoidL_map (Pred.avoid S),avoidL_map (Fact.avoid S)⟩
theorem Layout.avoid (S:Nat→Bool) (l:Layout):avoidV S l.av:=by
 simp only [Layout.av,Layout.cells,Scope.cells,Spec.cells,avoidV,avoidL,List.cons_append,List.nil_append,avoid_ints,true_and,and_true]
 exact ⟨avoidL_map (Sort'.avoid S),avoidL_map (Field.avoid S),avoidL_map (Pred.avoid S),avoidL_map (Fact.avoid S),avoidL_map (Bound.avoid S),avoidL_map (Pair.avoid S)⟩
theorem rels_avoid (S:Nat→Bool) (l:List Rel):avoidV S (rels l):=by simp only [rels,avoidV]; exact avoidL_map (Rel.avoid S)
theorem Model.avoid (S:Nat→Bool) (r:Model):avoidV S r.av:=by
 simp only [Model.av,avoidV,avoidL,avoid_ints,true_and,and_true]; exact avoidL_map (rels_avoid S)
end Go.AL
