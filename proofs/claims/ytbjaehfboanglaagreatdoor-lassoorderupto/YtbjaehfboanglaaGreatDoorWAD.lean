/- Part 4 of 11 of the proof: the lemmas and contracts of LRun .. PTot1. -/
import Derived.KernelRfl
import Derived.Test.YtbjaehfboanglaaGreatDoorProg
import Derived.Test.YtbjaehfboanglaaGreatDoorWAC
set_option linter.unusedVariables false
set_option linter.unusedSimpArgs false
namespace Go.AL
open Go
variable {P:Program} {N k n:Nat} {al al':List (Nat×AV)} {df:List ADef} {h h':List ABlk} {all:Array Oper} {o:Oper} {os:List Oper} {Q:AX→List (Nat×AV)→List ADef→List ABlk→Prop}
def stepR (P:Program) (all:Array Oper) (N:Nat) (al:List (Nat×AV)) (h:List ABlk) (o:Oper):Option (List (Nat×AV)×List ABlk):=
 bif fitsN N all o then
  match wantedA all al o with
  | some true=>
   match lightV P (avA al) h o.op with
   | some v=>some (putA al o.dst v,h)
   | none=>
    match heavyV P (avA al) h o.op with
    | some (v,h')=>some (putA al o.dst v,h')
    | none=>none
  | some false=>some (putA al o.dst undefV,h)
  | none=>none
 else none
def runR (P:Program) (all:Array Oper) (N:Nat):Nat→List Oper→List (Nat×AV)→List ABlk→Option (List (Nat×AV)×List ABlk)
 | 0,_,al,h=>some (al,h)
 | _ + 1,[],_,_=>none
 | n + 1,o :: os,al,h=>
  match stepR P all N al h o with
  | some (al',h')=>runR P all N n os al' h'
  | none=>none
def runA (P:Program) (all:Array Oper) (N:Nat):List Oper→List (Nat×AV)→List ABlk→Option (List (Nat×AV)×List ABlk)
 | [],al,h=>some (al,h)
 | o :: os,al,h=>
  match stepR P all N al h o with
  | some (al',h')=>runA P all N os al' h'
  | none=>none
theorem SOps.of_step (hs:stepR P all N al h o = some (al',h')) (h2:SOps P none all (k + 1) os N al' df h' Q):SOps P none all k (o :: os) N al df h Q:=by
 unfold stepR at hs
 cases hf:fitsN N all o with
 | false=>rw [hf] at hs; cases hs
 | true=>
  rw [hf] at hs
  simp only [cond_true] at hs
  split at hs
  ·rename_i hw
   split at hs
   ·rename_i v hl
    cases hs
    exact SOps.light hf hw hl rdNone h2
   ·split at hs
    ·rename_i v h1 hl
     cases hs
     exact SOps.heavy hf hw hl rdNone h2
    ·cases hs
  ·rename_i hw
   cases hs
   exact SOps.skip hf hw h2
  ·cases hs
theorem SOps.rn (n:Nat) (hr:runR P all N n os al h = some (al',h')) (h2:SOps P none all (k + n) (os.drop n) N al' df h' Q):SOps P none all k os N al df h Q:=by
 induction n generalizing os al h k with
 | zero=>
  simp only [runR,Option.some.injEq,Prod.mk.injEq] at hr
  obtain ⟨rfl,rfl⟩:=hr
  exact h2
 | succ n ih=>
  cases os with
  | nil=>simp [runR] at hr
  | cons o os=>
   simp only [runR] at hr
   split at hr
   ·rename_i a1 h1 hs
    exact SOps.of_step hs (ih hr (by rw [show k + 1 + n = k + (n + 1) by omega]; exact h2))
   ·cases hr
theorem SOps.re (hr:runA P all N os al h = some (al',h')) (hq:Q .normal al' df h'):SOps P none all k os N al df h Q:=by
 induction os generalizing al h k with
 | nil=>
  simp only [runA,Option.some.injEq,Prod.mk.injEq] at hr
  obtain ⟨rfl,rfl⟩:=hr
  exact SOps.nil rdNone hq
 | cons o os ih=>
  simp only [runA] at hr
  split at hr
  ·rename_i a1 h1 hs
   exact SOps.of_step hs (ih hr)
  ·cases hr
theorem SX.rr {id:Nat} {ops:Array Oper} (hr:runA P ops N ops.toList al h = some (al',h')) (hq:Q .normal al' df h'):SX P none (.region id ops false) N al df h Q:=SX.region (SOps.re hr hq)
theorem SX.rn {id:Nat} {ops:Array Oper} (n:Nat) (hr:runR P ops N n ops.toList al h = some (al',h')) (h2:SOps P none ops (0 + n) (ops.toList.drop n) N al' df h' Q):SX P none (.region id ops false) N al df h Q:=SX.region (SOps.rn n hr h2)
def stepP (P:Program) (all:Array Oper) (N:Nat) (h:List ABlk) (al:List (Nat×AV)) (o:Oper):Option (List (Nat×AV)):=
 bif fitsN N all o then
  match wantedA all al o with
  | some true=>
   match lightV P (avA al) h o.op with
   | some v=>some (putA al o.dst v)
   | none=>none
  | some false=>some (putA al o.dst undefV)
  | none=>none
 else none
def runP (P:Program) (all:Array Oper) (N:Nat) (h:List ABlk):Nat→List Oper→List (Nat×AV)→Option (List (Nat×AV))
 | 0,_,al=>some al
 | _ + 1,[],_=>none
 | n + 1,o :: os,al=>
  match stepP P all N h al o with
  | some al'=>runP P all N h n os al'
  | none=>none
def runPA (P:Program) (all:Array Oper) (N:Nat) (h:List ABlk):List Oper→List (Nat×AV)→Option (List (Nat×AV))
 | [],al=>some al
 | o :: os,al=>
  match stepP P all N h al o with
  | some al'=>runPA P all N h os al'
  | none=>none
variable {QA:List (Nat×AV)→Prop}
theorem PO.of_step (hs:stepP P all N h al o = some al') (h2:PO P none all os N al' df h QA):PO P none all (o :: os) N al df h QA:=by
 unfold stepP at hs
 cases hf:fitsN N all o with
 | false=>rw [hf] at hs; cases hs
 | true=>
  rw [hf] at hs
  simp only [cond_true] at hs
  split at hs
  ·rename_i hw
   split at hs
   ·rename_i v hl
    cases hs
    exact PO.light hf hw hl h2
   ·cases hs
  ·rename_i hw
   cases hs
   exact PO.skip hf hw h2
  ·cases hs
theorem PO.rn (n:Nat) (hr:runP P all N h n os al = some al') (h2:PO P none all (os.drop n) N al' df h QA):PO P none all os N al df h QA:=by
 induction n generalizing os al with
 | zero=>
  simp only [runP,Option.some.injEq] at hr
  subst hr
  exact h2
 | succ n ih=>
  cases os with
  | nil=>simp [runP] at hr
  | cons o os=>
   simp only [runP] at hr
   split at hr
   ·rename_i a1 hs
    exact PO.of_step hs (ih hr h2)
   ·cases hr
theorem PO.re (hr:runPA P all N h os al = some al') (hq:QA al'):PO P none all os N al df h QA:=by
 induction os generalizing al with
 | nil=>
  simp only [runPA,Option.some.injEq] at hr
  subst hr
  exact PO.nil hq
 | cons o os ih=>
  simp only [runPA] at hr
  split at hr
  ·rename_i a1 hs
   exact PO.of_step hs (ih hr)
  ·cases hr
theorem aI {a b:Prop} (x:a) (y:b):a∧b:=⟨x,y⟩
theorem eI {α:Sort _} {p:α→Prop} (w:α) (h:p w):∃ x,p x:=⟨w,h⟩
theorem oj {α:Type _} {a b:α} (h:some a = some b):a = b:=Option.some.inj h
theorem ojs {α:Type _} {a b:α} (h:some a = some b):b = a:=(Option.some.inj h).symm
theorem nlst {args:List AV} {N:Nat} (h:Nat.ble args.length N = true):args ++ List.replicate (N - args.length) .poison = lst N (numbered 0 args):=numbered_lst (Nat.le_of_ble_eq_true h)
theorem leA_of {al:List (Nat×AV)}:∀ {al1:List (Nat×AV)},al1.map (fun p=>aget al p.1) = al1.map (·.2)→leA al al1
 | [],_=>.nil
 | (k,v) :: l,h=>by
  simp only [List.map_cons,List.cons.injEq] at h
  exact .cons h.1 (leA_of h.2)
theorem CutTo.sr {n0:Nat} {al1 al':List (Nat×AV)} {h1:List ABlk} (h:al1.map (fun p=>aget al' p.1) = al1.map (·.2)):CutTo n0 al1 h1 al' [] h1:=CutTo.same (leA_of h)
theorem SX.rt (hq:Q .ret al df h):SX P none .ret N al df h Q:=SX.ret rdNone hq
theorem SX.sk (hq:Q .normal al df h):SX P none .skip N al df h Q:=SX.skip rdNone hq
theorem SX.ex {id:Nat} (hq:Q (.exit id) al df h):SX P none (.exit id) N al df h Q:=SX.exit rdNone hq
abbrev vA (v:View) (b:Bool):AV:=.agg [.vw 2 (v.sp.sorts.map Sort'.av),.vw 3 (v.sp.fields.map Field.av),.vw 7 (v.sp.preds.map Pred.av),.vw 6 (v.sp.facts.map Fact.av),.vw 1 (v.temp.map AV.bool),.int .i64 v.calls,.bool b]
theorem vRd {h:List ABlk} {v:View} {b:Bool}:ReadV h (vA v b) (vA v b):=.apart (.agg (.cons (.vw (ApartL.map fun _ _=>Sort'.apart _)) (.cons (.vw (ApartL.map fun _ _=>Field.apart _)) (.cons (.vw (ApartL.map fun _ _=>Pred.apart _)) (.cons (.vw (ApartL.map fun _ _=>Fact.apart _)) (.cons (.vw (ApartL.map fun _ _=>.bool)) (.cons .int (.cons .bool .nil))))))))
abbrev e0:AV:=((Set'.mk 0 fun _=>false)).av
abbrev d0:AV:=.agg [.int .i64 0,.int .i64 0]
end Go.AL
namespace Go.AL
open Go Go.Proofs
set_option maxRecDepth 10000
theorem follows_mixed:Tryz.prog.follows .mixedOrders = true:=rfl
end Go.AL
namespace Go.AL
open Go Go.Proofs
set_option maxRecDepth 10000
def m29 (F:Nat) (a:List Int) (b:List Int):Option Bool:=
 bif ((a.length:Int) != (b.length:Int)) then
 some false
 else
 (runs (fun (s1:Int)=>
 (bif decide (s1 < (a.length:Int)) then
 (idx a s1).bind fun y4=>
 (idx b s1).bind fun y5=>
 bif (y4 != y5) then
 some (Out.ret false)
 else
 some (Out.next (w64 (s1 + 1)))
 else
 some (Out.exit (())):Option (Out (Int) (Unit) Bool))) F (0)).bind fun (o8:(Unit) ⊕ Bool)=>(match o8 with
 | .inl x6=>
 some true
 | .inr r9=>some r9)
theorem c29 (F:Nat) (a:List Int) (b:List Int) (res:Bool) (hm:m29 F a b = some res) (h:List ABlk):ACall Tryz.prog 29 [AV.vw 1 (a.map (AV.int .i64)),AV.vw 1 (b.map (AV.int .i64))] h (.ret (AV.bool res)) h:=by
 unfold m29 at hm
 refine ACall.mir 0 Tryz.func29 rfl (.cons (.vw (ApartL.map fun _ _=>.int)) (.cons (.vw (ApartL.map fun _ _=>.int)) .nil)) (nlst rfl) ?_ h
 show SX _ _ _ 26 _ _ _ _
 refine SX.seq (SX.rr rfl ?_)
 refine SX.seq (SX.seq ?_)
 refine SX.rn 1 rfl (SOps.light rfl rfl (lightV_len (f:=(AV.int .i64)) (xs:=a) rfl rfl Tryz.underlying28 rfl) rdNone (SOps.rn 1 rfl (SOps.light rfl rfl (lightV_len (f:=(AV.int .i64)) (xs:=b) rfl rfl Tryz.underlying28 rfl) rdNone (SOps.re rfl ?_))))
 refine SX.condM rfl rfl hm (fun ht hm=>?_) (fun ht hm=>?_)
 ·refine SX.seq (SX.rr rfl (SX.rt ?_))
  obtain rfl:=oj hm
  exact RetQ.mk (vs:=[AV.bool false]) rfl (.apart .bool)
 ·refine SX.sk ?_
  refine SX.seq (SX.seq ?_)
  refine SX.rr rfl ?_
  obtain ⟨o8,ho8,hm⟩:=bindE hm
  refine SX.forget (al':=[(0,AV.vw 1 (a.map (AV.int .i64))),(1,AV.vw 1 (b.map (AV.int .i64))),(5,AV.int .i64 0)]) (leA_of rfl) ?_
  refine SX.iter (fun (s1:Int) (g2:Unit)=>[(0,AV.vw 1 (a.map (AV.int .i64))),(1,AV.vw 1 (b.map (AV.int .i64))),(5,AV.int .i64 s1)]) (fun (s1:Int) (g2:Unit)=>[]) (fun (x6:Unit) (g7:Unit)=>[]) (fun (x6:Unit) (g7:Unit)=>[]) (fun r al df h=>Ret Tryz.prog Tryz.f29 (AV.bool r) al df h) () ho8 rfl rfl ?_ ?_ ?_
  ·intro s1 g2 out3 hb
   refine SX.seq (SX.seq ?_)
   refine SX.rn 2 rfl (SOps.light rfl rfl (lightV_len (f:=(AV.int .i64)) (xs:=a) rfl rfl Tryz.underlying28 rfl) rdNone (SOps.re rfl ?_))
   refine SX.condM rfl rfl hb (fun ht hb=>?_) (fun ht hb=>?_)
   ·refine SX.sk (SX.seq (SX.block (SX.seq (SX.draw follows_mixed rfl rdNone (PO.rn 2 rfl ?_)))))
    obtain ⟨y4,hy4,hb⟩:=bindE hb
    refine PO.light rfl rfl (lightV_idx (f:=(AV.int .i64)) (xs:=a) rfl rfl Tryz.underlying28 rfl hy4) (PO.rn 3 rfl ?_)
    obtain ⟨y5,hy5,hb⟩:=bindE hb
    refine PO.light rfl rfl (lightV_idx (f:=(AV.int .i64)) (xs:=b) rfl rfl Tryz.underlying28 rfl hy5) (PO.re rfl ?_)
    refine SX.condM rfl rfl hb (fun ht hb=>?_) (fun ht hb=>?_)
    ·refine SX.seq (SX.rr rfl (SX.rt ?_))
     exact eI _ (aI (ojs hb) (Ret.mk (vs:=[AV.bool false]) rfl (.apart .bool)))
    ·refine SX.sk (SX.rr rfl ?_)
     exact eI _ (eI () (aI (ojs hb) (CutTo.sr rfl)))
   ·refine SX.ex ?_
    exact aI rfl (eI _ (eI () (aI (ojs hb) (CutTo.sr rfl))))
  ·intro x6 g7 he
   subst he
   refine SX.seq (SX.rr rfl (SX.rt ?_))
   obtain rfl:=oj hm
   exact RetQ.mk (vs:=[AV.bool true]) rfl (.apart .bool)
  ·intro r al' df' h' hr hq
   subst hr
   obtain rfl:=oj hm
   exact hq
def m70 (F:Nat) (r:Rel) (rank:Int):Option Bool:=
 (runs (fun (s1:Int×Int)=>
 (bif decide (s1.1 < s1.2) then
 (idx r.tuples (w64 (Int.tdiv (w64 (s1.1 + s1.2)) 2))).bind fun y4=>
 bif decide (y4 < rank) then
 some (Out.next (w64 (w64 (Int.tdiv (w64 (s1.1 + s1.2)) 2) + 1),s1.2))
 else
 some (Out.next (s1.1,w64 (Int.tdiv (w64 (s1.1 + s1.2)) 2)))
 else
 some (Out.exit (s1.1)):Option (Out (Int×Int) (Int) Bool))) F (0,(r.tuples.length:Int))).bind fun (o7:(Int) ⊕ Bool)=>(match o7 with
 | .inl x5=>
 (bif decide (x5 < (r.tuples.length:Int)) then
 (idx r.tuples x5).bind fun y8=>
 some ((y8 == rank))
 else
 some (false)).bind fun p9=>
 some p9
 | .inr r11=>some r11)
theorem c70 (F:Nat) (r:Rel) (rank:Int) (res:Bool) (hm:m70 F r rank = some res) (h:List ABlk):ACall Tryz.prog 70 [r.av,AV.int .i64 rank] h (.ret (AV.bool res)) h:=by
 unfold m70 at hm
 refine ACall.mir 0 Tryz.func70 rfl (.cons (Rel.apart _) (.cons .int .nil)) (nlst rfl) ?_ h
 show SX _ _ _ 42 _ _ _ _
 refine SX.seq (SX.rr rfl (SX.seq (SX.rr rfl (SX.seq (SX.rn 2 rfl (SOps.light rfl rfl (lightV_len (f:=(AV.int .i64)) (xs:=r.tuples) rfl rfl Tryz.underlying28 rfl) rdNone (SOps.re rfl (SX.seq ?_))))))))
 obtain ⟨o7,ho7,hm⟩:=bindE hm
 refine SX.forget (al':=[(1,AV.int .i64 rank),(2,AV.ptr 0 0 0 0),(5,AV.int .i64 0),(6,AV.int .i64 ((r.tuples.length:Int)))]) (leA_of rfl) ?_
 refine SX.iter (fun (s1:Int×Int) (g2:Unit)=>[(1,AV.int .i64 rank),(2,AV.ptr 0 0 0 0),(5,AV.int .i64 s1.1),(6,AV.int .i64 s1.2)]) (fun (s1:Int×Int) (g2:Unit)=>[ABlk.row 0 2 [r.av]]) (fun (x5:Int) (g6:Unit)=>[(1,AV.int .i64 rank),(2,AV.ptr 0 0 0 0),(5,AV.int .i64 x5)]) (fun (x5:Int) (g6:Unit)=>[ABlk.row 0 2 [r.av]]) (fun r al df h=>Ret Tryz.prog Tryz.f70 (AV.bool r) al df h) () ho7 rfl rfl ?_ ?_ ?_
 ·intro s1 g2 out3 hb
  refine SX.seq (SX.seq ?_)
  refine SX.rr rfl ?_
  refine SX.condM rfl rfl hb (fun ht hb=>?_) (fun ht hb=>?_)
  ·refine SX.sk (SX.block (SX.seq (SX.rr rfl (SX.seq (SX.rn 3 rfl ?_)))))
   obtain ⟨y4,hy4,hb⟩:=bindE hb
   refine SOps.light rfl rfl (lightV_idx (f:=(AV.int .i64)) (xs:=r.tuples) rfl rfl Tryz.underlying28 rfl hy4) rdNone (SOps.re rfl ?_)
   refine SX.condM rfl rfl hb (fun ht hb=>?_) (fun ht hb=>?_)
   ·refine SX.rr rfl ?_
    exact eI _ (eI () (aI (ojs hb) (CutTo.sr rfl)))
   ·refine SX.rr rfl ?_
    exact eI _ (eI () (aI (ojs hb) (CutTo.sr rfl)))
  ·refine SX.ex ?_
   exact aI rfl (eI _ (eI () (aI (ojs hb) (CutTo.sr rfl))))
 ·intro x5 g6 he
  subst he
  refine SX.seq ?_
  obtain ⟨p9,hj,hm⟩:=bindE hm
  refine SX.join ([(4,AV.bool p9)]) ([ABlk.row 0 2 [r.av]]) (SX.region ?_) ?_
  ·refine SOps.rn 3 rfl (SOps.light rfl rfl (lightV_len (f:=(AV.int .i64)) (xs:=r.tuples) rfl rfl Tryz.underlying28 rfl) rdNone (SOps.rn 1 rfl ?_))
   refine SOps.splitM rfl rfl rfl rdNone hj (fun hj=>?_) (fun hj=>?_)
   ·refine SOps.rn 3 rfl ?_
    obtain ⟨y8,hy8,hj⟩:=bindE hj
    refine SOps.light rfl rfl (lightV_idx (f:=(AV.int .i64)) (xs:=r.tuples) rfl rfl Tryz.underlying28 rfl hy8) rdNone (SOps.re rfl ?_)
    obtain rfl:=oj hj
    exact ⟨rfl,CutTo.sr rfl⟩
   ·refine SOps.re rfl ?_
    obtain rfl:=oj hj
    exact ⟨rfl,CutTo.sr rfl⟩
  refine SX.rt ?_
  obtain rfl:=oj hm
  exact RetQ.mk (vs:=[AV.bool p9]) rfl (.apart .bool)
 ·intro r al' df' h' hr hq
  subst hr
  obtain rfl:=oj hm
  exact hq
def m48 (F:Nat) (sc:Scope):Option Int:=
 (runs (fun (s1:Int×Int)=>
 (bif decide (s1.2 < (sc.atoms.length:Int)) then
 (idx sc.atoms s1.2).bind fun y4=>
 some (Out.next (w64 (s1.1 + y4),w64 (s1.2 + 1)))
 else
 some (Out.exit (s1.1)):Option (Out (Int×Int) (Int) Int))) F (0,0)).bind fun (o7:(Int) ⊕ Int)=>(match o7 with
 | .inl x5=>
 some x5
 | .inr r8=>some r8)
theorem c48 (F:Nat) (sc:Scope) (res:Int) (hm:m48 F sc = some res) (h:List ABlk):ACall Tryz.prog 48 [sc.av] h (.ret (AV.int .i64 res)) h:=by
 unfold m48 at hm
 refine ACall.mir 0 Tryz.func48 rfl (.cons (Scope.apart _) .nil) (nlst rfl) ?_ h
 show SX _ _ _ 20 _ _ _ _
 refine SX.seq (SX.rr rfl (SX.seq (SX.rr rfl ?_)))
 refine SX.seq (SX.seq ?_)
 refine SX.rr rfl ?_
 obtain ⟨o7,ho7,hm⟩:=bindE hm
 refine SX.forget (al':=[(1,AV.ptr 0 0 0 0),(3,AV.int .i64 0),(4,AV.int .i64 0)]) (leA_of rfl) ?_
 refine SX.iter (fun (s1:Int×Int) (g2:Unit)=>[(1,AV.ptr 0 0 0 0),(3,AV.int .i64 s1.1),(4,AV.int .i64 s1.2)]) (fun (s1:Int×Int) (g2:Unit)=>[ABlk.row 0 2 [sc.av]]) (fun (x5:Int) (g6:Unit)=>[(3,AV.int .i64 x5)]) (fun (x5:Int) (g6:Unit)=>[ABlk.row 0 2 [sc.av]]) (fun r al df h=>Ret Tryz.prog Tryz.f48 (AV.int .i64 r) al df h) () ho7 rfl rfl ?_ ?_ ?_
 ·intro s1 g2 out3 hb
  refine SX.seq (SX.seq ?_)
  refine SX.rn 3 rfl (SOps.light rfl rfl (lightV_len (f:=(AV.int .i64)) (xs:=sc.atoms) rfl rfl Tryz.underlying28 rfl) rdNone (SOps.re rfl ?_))
  refine SX.condM rfl rfl hb (fun ht hb=>?_) (fun ht hb=>?_)
  ·refine SX.sk (SX.seq (SX.block (SX.rn 4 rfl ?_)))
   obtain ⟨y4,hy4,hb⟩:=bindE hb
   refine SOps.light rfl rfl (lightV_idx (f:=(AV.int .i64)) (xs:=sc.atoms) rfl rfl Tryz.underlying28 rfl hy4) rdNone (SOps.re rfl (SX.rr rfl ?_))
   exact eI _ (eI () (aI (ojs hb) (CutTo.sr rfl)))
  ·refine SX.ex ?_
   exact aI rfl (eI _ (eI () (aI (ojs hb) (CutTo.sr rfl))))
 ·intro x5 g6 he
  subst he
  refine SX.seq (SX.rr rfl (SX.rt ?_))
  obtain rfl:=oj hm
  exact RetQ.mk (vs:=[AV.int .i64 x5]) rfl (.apart .int)
 ·intro r al' df' h' hr hq
  subst hr
  obtain rfl:=oj hm
  exact hq
def m126 (F:Nat) (n:Int) (k:Int):Option Int:=
 (runs (fun (s1:Int×Int)=>
 ((bif decide (s1.2 < k) then
 some (decide (s1.2 < 3))
 else
 some (false)).bind fun p4=>
 bif p4 then
 some (Out.next (w64 (s1.1 * n),w64 (s1.2 + 1)))
 else
 some (Out.exit (s1.1)):Option (Out (Int×Int) (Int) Int))) F (1,0)).bind fun (o8:(Int) ⊕ Int)=>(match o8 with
 | .inl x6=>
 some x6
 | .inr r9=>some r9)
theorem c126 (F:Nat) (n:Int) (k:Int) (res:Int) (hm:m126 F n k = some res) (h:List ABlk):ACall Tryz.prog 126 [AV.int .i64 n,AV.int .i64 k] h (.ret (AV.int .i64 res)) h:=by
 unfold m126 at hm
 refine ACall.mir 0 Tryz.func126 rfl (.cons .int (.cons .int .nil)) (nlst rfl) ?_ h
 show SX _ _ _ 20 _ _ _ _
 refine SX.seq (SX.rr rfl (SX.seq (SX.rr rfl ?_)))
 refine SX.seq (SX.seq ?_)
 refine SX.rr rfl ?_
 obtain ⟨o8,ho8,hm⟩:=bindE hm
 refine SX.forget (al':=[(0,AV.int .i64 n),(1,AV.int .i64 k),(5,AV.int .i64 1),(6,AV.int .i64 0)]) (leA_of rfl) ?_
 refine SX.iter (fun (s1:Int×Int) (g2:Unit)=>[(0,AV.int .i64 n),(1,AV.int .i64 k),(5,AV.int .i64 s1.1),(6,AV.int .i64 s1.2)]) (fun (s1:Int×Int) (g2:Unit)=>[]) (fun (x6:Int) (g7:Unit)=>[(5,AV.int .i64 x6)]) (fun (x6:Int) (g7:Unit)=>[]) (fun r al df h=>Ret Tryz.prog Tryz.f126 (AV.int .i64 r) al df h) () ho8 rfl rfl ?_ ?_ ?_
 ·intro s1 g2 out3 hb
  refine SX.seq (SX.seq ?_)
  obtain ⟨p4,hj,hb⟩:=bindE hb
  refine SX.join ([(0,AV.int .i64 n),(1,AV.int .i64 k),(5,AV.int .i64 s1.1),(6,AV.int .i64 s1.2),(13,AV.bool p4)]) ([]) (SX.region ?_) ?_
  ·refine SOps.rn 3 rfl ?_
   refine SOps.splitM rfl rfl rfl rdNone hj (fun hj=>?_) (fun hj=>?_)
   ·refine SOps.re rfl ?_
    obtain rfl:=oj hj
    exact ⟨rfl,CutTo.sr rfl⟩
   ·refine SOps.re rfl ?_
    obtain rfl:=oj hj
    exact ⟨rfl,CutTo.sr rfl⟩
  refine SX.condM rfl rfl hb (fun ht hb=>?_) (fun ht hb=>?_)
  ·refine SX.sk (SX.seq (SX.block (SX.rr rfl (SX.rr rfl ?_))))
   exact eI _ (eI () (aI (ojs hb) (CutTo.sr rfl)))
  ·refine SX.ex ?_
   exact aI rfl (eI _ (eI () (aI (ojs hb) (CutTo.sr rfl))))
 ·intro x6 g7 he
  subst he
  refine SX.seq (SX.rr rfl (SX.rt ?_))
  obtain rfl:=oj hm
  exact RetQ.mk (vs:=[AV.int .i64 x6]) rfl (.apart .int)
 ·intro r al' df' h' hr hq
  subst hr
  obtain rfl:=oj hm
  exact hq
def m80 (F:Nat) (n:Int) (r:Rel):Option Bool:=
 (bif decide (n < 0) then
 some (true)
 else
 bif decide (12 < n) then
 some (true)
 else
 bif decide (r.arity < 1) then
 some (true)
 else
 some (decide (3 < r.arity))).bind fun p1=>
 bif p1 then
 some false
 else
 (runs (fun (s3:Int)=>
 (bif decide (s3 < (r.tuples.length:Int)) then
 ((idx r.tuples s3).bind fun y6=>
 bif decide (y6 < 0) then
 some (true)
 else
 (idx r.tuples s3).bind fun y7=>
 (m126 F n r.arity).bind fun y8=>
 bif decide (y8≤y7) then
 some (true)
 else
 bif decide (0 < s3) then
 (idx r.tuples s3).bind fun y9=>
 (idx r.tuples (w64 (s3 - 1))).bind fun y10=>
 some (decide (y9≤y10))
 else
 some (false)).bind fun p11=>
 bif p11 then
 some (Out.ret false)
 else
 some (Out.next (w64 (s3 + 1)))
 else
 some (Out.exit (())):Option (Out (Int) (Unit) Bool))) F (0)).bind fun (o15:(Unit) ⊕ Bool)=>(match o15 with
 | .inl x13=>
 some true
 | .inr r16=>some r16)
theorem c80 (F:Nat) (n:Int) (r:Rel) (res:Bool) (hm:m80 F n r = some res) (h:List ABlk):ACall Tryz.prog 80 [AV.int .i64 n,r.av] h (.ret (AV.bool res)) h:=by
 unfold m80 at hm
 refine ACall.mir 0 Tryz.func80 rfl (.cons .int (.cons (Rel.apart _) .nil)) (nlst rfl) ?_ h
 show SX _ _ _ 65 _ _ _ _
 refine SX.seq (SX.rr rfl ?_)
 refine SX.seq (SX.seq ?_)
 obtain ⟨p1,hj,hm⟩:=bindE hm
 refine SX.join ([(0,AV.int .i64 n),(3,AV.ptr 0 0 0 0),(21,AV.bool p1)]) ([ABlk.row 0 2 [r.av]]) (SX.region ?_) ?_
 ·refine SOps.rn 2 rfl ?_
  refine SOps.splitM rfl rfl rfl rdNone hj (fun hj=>?_) (fun hj=>?_)
  ·refine SOps.re rfl ?_
   obtain rfl:=oj hj
   exact ⟨rfl,CutTo.sr rfl⟩
  ·refine SOps.rn 3 rfl ?_
   refine SOps.splitM rfl rfl rfl rdNone hj (fun hj=>?_) (fun hj=>?_)
   ·refine SOps.re rfl ?_
    obtain rfl:=oj hj
    exact ⟨rfl,CutTo.sr rfl⟩
   ·refine SOps.rn 4 rfl ?_
    refine SOps.splitM rfl rfl rfl rdNone hj (fun hj=>?_) (fun hj=>?_)
    ·refine SOps.re rfl ?_
     obtain rfl:=oj hj
     exact ⟨rfl,CutTo.sr rfl⟩
    ·refine SOps.re rfl ?_
     obtain rfl:=oj hj
     exact ⟨rfl,CutTo.sr rfl⟩
 refine SX.condM rfl rfl hm (fun ht hm=>?_) (fun ht hm=>?_)
 ·refine SX.seq (SX.rr rfl (SX.rt ?_))
  obtain rfl:=oj hm
  exact RetQ.mk (vs:=[AV.bool false]) rfl (.apart .bool)
 ·refine SX.sk ?_
  refine SX.seq (SX.seq ?_)
  refine SX.rr rfl ?_
  obtain ⟨o15,ho15,hm⟩:=bindE hm
  refine SX.forget (al':=[(0,AV.int .i64 n),(3,AV.ptr 0 0 0 0),(5,AV.int .i64 0)]) (leA_of rfl) ?_
  refine SX.iter (fun (s3:Int) (g4:Unit)=>[(0,AV.int .i64 n),(3,AV.ptr 0 0 0 0),(5,AV.int .i64 s3)]) (fun (s3:Int) (g4:Unit)=>[ABlk.row 0 2 [r.av]]) (fun (x13:Unit) (g14:Unit)=>[]) (fun (x13:Unit) (g14:Unit)=>[ABlk.row 0 2 [r.av]]) (fun r al df h=>Ret Tryz.prog Tryz.f80 (AV.bool r) al df h) () ho15 rfl rfl ?_ ?_ ?_
  ·intro s3 g4 out5 hb
   refine SX.seq (SX.seq ?_)
   refine SX.rn 3 rfl (SOps.light rfl rfl (lightV_len (f:=(AV.int .i64)) (xs:=r.tuples) rfl rfl Tryz.underlying28 rfl) rdNone (SOps.re rfl ?_))
   refine SX.condM rfl rfl hb (fun ht hb=>?_) (fun ht hb=>?_)
   ·refine SX.sk (SX.seq (SX.block (SX.seq ?_)))
    obtain ⟨p11,hj,hb⟩:=bindE hb
    refine SX.join ([(0,AV.int .i64 n),(3,AV.ptr 0 0 0 0),(5,AV.int .i64 s3),(64,AV.bool p11)]) ([ABlk.row 0 2 [r.av]]) (SX.draw follows_mixed rfl rdNone ?_) ?_
    ·refine PO.rn 3 rfl ?_
     obtain ⟨y6,hy6,hj⟩:=bindE hj
     refine PO.light rfl rfl (lightV_idx (f:=(AV.int .i64)) (xs:=r.tuples) rfl rfl Tryz.underlying28 rfl hy6) (PO.rn 2 rfl ?_)
     refine PO.splitM rfl rfl rfl hj (fun hj=>?_) (fun hj=>?_)
     ·refine PO.re rfl ?_
      obtain rfl:=oj hj
      exact ⟨rfl,CutTo.sr rfl⟩
     ·refine PO.rn 3 rfl ?_
      obtain ⟨y7,hy7,hj⟩:=bindE hj
      refine PO.light rfl rfl (lightV_idx (f:=(AV.int .i64)) (xs:=r.tuples) rfl rfl Tryz.underlying28 rfl hy7) (PO.rn 4 rfl ?_)
      obtain ⟨y8,hy8,hj⟩:=bindE hj
      refine PO.call rfl rfl rfl rfl rfl (c126 F n r.arity y8 hy8 _) (PO.rn 2 rfl ?_)
      refine PO.splitM rfl rfl rfl hj (fun hj=>?_) (fun hj=>?_)
      ·refine PO.re rfl ?_
       obtain rfl:=oj hj
       exact ⟨rfl,CutTo.sr rfl⟩
      ·refine PO.rn 2 rfl ?_
       refine PO.splitM rfl rfl rfl hj (fun hj=>?_) (fun hj=>?_)
       ·refine PO.rn 3 rfl ?_
        obtain ⟨y9,hy9,hj⟩:=bindE hj
        refine PO.light rfl rfl (lightV_idx (f:=(AV.int .i64)) (xs:=r.tuples) rfl rfl Tryz.underlying28 rfl hy9) (PO.rn 5 rfl ?_)
        obtain ⟨y10,hy10,hj⟩:=bindE hj
        refine PO.light rfl rfl (lightV_idx (f:=(AV.int .i64)) (xs:=r.tuples) rfl rfl Tryz.underlying28 rfl hy10) (PO.re rfl ?_)
        obtain rfl:=oj hj
        exact ⟨rfl,CutTo.sr rfl⟩
       ·refine PO.re rfl ?_
        obtain rfl:=oj hj
        exact ⟨rfl,CutTo.sr rfl⟩
    refine SX.condM rfl rfl hb (fun ht hb=>?_) (fun ht hb=>?_)
    ·refine SX.seq (SX.rr rfl (SX.rt ?_))
     exact eI _ (aI (ojs hb) (Ret.mk (vs:=[AV.bool false]) rfl (.apart .bool)))
    ·refine SX.sk (SX.rr rfl ?_)
     exact eI _ (eI () (aI (ojs hb) (CutTo.sr rfl)))
   ·refine SX.ex ?_
    exact aI rfl (eI _ (eI () (aI (ojs hb) (CutTo.sr rfl))))
  ·intro x13 g14 he
   subst he
   refine SX.seq (SX.rr rfl (SX.rt ?_))
   obtain rfl:=oj hm
   exact RetQ.mk (vs:=[AV.bool true]) rfl (.apart .bool)
  ·intro r al' df' h' hr hq
   subst hr
   obtain rfl:=oj hm
   exact hq
def m127 (F:Nat) (sc:Scope) (atom:Int):Option Int:=
 (runs (fun (s1:Int×Int)=>
 (bif decide (s1.2 < (sc.atoms.length:Int)) then
 (idx sc.atoms s1.2).bind fun y4=>
 bif decide (s1.1 < y4) then
 some (Out.ret s1.2)
 else
 (idx sc.atoms s1.2).bind fun y5=>
 some (Out.next (w64 (s1.1 - y5),w64 (s1.2 + 1)))
 else
 some (Out.exit (())):Option (Out (Int×Int) (Unit) Int))) F (atom,0)).bind fun (o8:(Unit) ⊕ Int)=>(match o8 with
 | .inl x6=>
 some ((-1))
 | .inr r9=>some r9)
theorem c127 (F:Nat) (sc:Scope) (atom:Int) (res:Int) (hm:m127 F sc atom = some res) (h:List ABlk):ACall Tryz.prog 127 [sc.av,AV.int .i64 atom] h (.ret (AV.int .i64 res)) h:=by
 unfold m127 at hm
 refine ACall.mir 0 Tryz.func127 rfl (.cons (Scope.apart _) (.cons .int .nil)) (nlst rfl) ?_ h
 show SX _ _ _ 28 _ _ _ _
 refine SX.seq (SX.rr rfl ?_)
 refine SX.seq (SX.seq ?_)
 refine SX.rr rfl ?_
 obtain ⟨o8,ho8,hm⟩:=bindE hm
 refine SX.forget (al':=[(1,AV.int .i64 atom),(2,AV.ptr 0 0 0 0),(5,AV.int .i64 0)]) (leA_of rfl) ?_
 refine SX.iter (fun (s1:Int×Int) (g2:Unit)=>[(1,AV.int .i64 s1.1),(2,AV.ptr 0 0 0 0),(5,AV.int .i64 s1.2)]) (fun (s1:Int×Int) (g2:Unit)=>[ABlk.row 0 2 [sc.av]]) (fun (x6:Unit) (g7:Unit)=>[]) (fun (x6:Unit) (g7:Unit)=>[ABlk.row 0 2 [sc.av]]) (fun r al df h=>Ret Tryz.prog Tryz.f127 (AV.int .i64 r) al df h) () ho8 rfl rfl ?_ ?_ ?_
 ·intro s1 g2 out3 hb
  refine SX.seq (SX.seq ?_)
  refine SX.rn 3 rfl (SOps.light rfl rfl (lightV_len (f:=(AV.int .i64)) (xs:=sc.atoms) rfl rfl Tryz.underlying28 rfl) rdNone (SOps.re rfl ?_))
  refine SX.condM rfl rfl hb (fun ht hb=>?_) (fun ht hb=>?_)
  ·refine SX.sk (SX.seq (SX.block ?_))
   refine SX.seq (SX.seq ?_)
   refine SX.rn 4 rfl ?_
   obtain ⟨y4,hy4,hb⟩:=bindE hb
   refine SOps.light rfl rfl (lightV_idx (f:=(AV.int .i64)) (xs:=sc.atoms) rfl rfl Tryz.underlying28 rfl hy4) rdNone (SOps.re rfl ?_)
   refine SX.condM rfl rfl hb (fun ht hb=>?_) (fun ht hb=>?_)
   ·refine SX.seq (SX.rr rfl (SX.rt ?_))
    exact eI _ (aI (ojs hb) (Ret.mk (vs:=[AV.int .i64 s1.2]) rfl (.apart .int)))
   ·refine SX.sk (SX.rn 4 rfl ?_)
    obtain ⟨y5,hy5,hb⟩:=bindE hb
    refine SOps.light rfl rfl (lightV_idx (f:=(AV.int .i64)) (xs:=sc.atoms) rfl rfl Tryz.underlying28 rfl hy5) rdNone (SOps.re rfl (SX.rr rfl ?_))
    exact eI _ (eI () (aI (ojs hb) (CutTo.sr rfl)))
  ·refine SX.ex ?_
   exact aI rfl (eI _ (eI () (aI (ojs hb) (CutTo.sr rfl))))
 ·intro x6 g7 he
  subst he
  refine SX.seq (SX.rr rfl (SX.rt ?_))
  obtain rfl:=oj hm
  exact RetQ.mk (vs:=[AV.int .i64 ((-1))]) rfl (.apart .int)
 ·intro r al' df' h' hr hq
  subst hr
  obtain rfl:=oj hm
  exact hq
def m38 (F:Nat) (a:Rel) (b:Rel):Option Bool:=
 (bif (a.arity != b.arity) then
 some (true)
 else
 some (((a.tuples.length:Int) != (b.tuples.length:Int)))).bind fun p1=>
 bif p1 then
 some false
 else
 (runs (fun (s3:Int)=>
 (bif decide (s3 < (a.tuples.length:Int)) then
 (idx a.tuples s3).bind fun y6=>
 (idx b.tuples s3).bind fun y7=>
 bif (y6 != y7) then
 some (Out.ret false)
 else
 some (Out.next (w64 (s3 + 1)))
 else
 some (Out.exit (())):Option (Out (Int) (Unit) Bool))) F (0)).bind fun (o10:(Unit) ⊕ Bool)=>(match o10 with
 | .inl x8=>
 some true
 | .inr r11=>some r11)
theorem c38 (F:Nat) (a:Rel) (b:Rel) (res:Bool) (hm:m38 F a b = some res) (h:List ABlk):ACall Tryz.prog 38 [a.av,b.av] h (.ret (AV.bool res)) h:=by
 unfold m38 at hm
 refine ACall.mir 0 Tryz.func38 rfl (.cons (Rel.apart _) (.cons (Rel.apart _) .nil)) (nlst rfl) ?_ h
 show SX _ _ _ 38 _ _ _ _
 refine SX.seq (SX.rr rfl ?_)
 refine SX.seq (SX.seq ?_)
 obtain ⟨p1,hj,hm⟩:=bindE hm
 refine SX.join ([(2,AV.ptr 0 0 0 0),(3,AV.ptr 1 0 0 0),(19,AV.bool p1)]) ([ABlk.row 0 2 [a.av],ABlk.row 0 2 [b.av]]) (SX.region ?_) ?_
 ·refine SOps.rn 5 rfl ?_
  refine SOps.splitM rfl rfl rfl rdNone hj (fun hj=>?_) (fun hj=>?_)
  ·refine SOps.re rfl ?_
   obtain rfl:=oj hj
   exact ⟨rfl,CutTo.sr rfl⟩
  ·refine SOps.rn 2 rfl (SOps.light rfl rfl (lightV_len (f:=(AV.int .i64)) (xs:=a.tuples) rfl rfl Tryz.underlying28 rfl) rdNone (SOps.rn 2 rfl (SOps.light rfl rfl (lightV_len (f:=(AV.int .i64)) (xs:=b.tuples) rfl rfl Tryz.underlying28 rfl) rdNone (SOps.re rfl ?_))))
   obtain rfl:=oj hj
   exact ⟨rfl,CutTo.sr rfl⟩
 refine SX.condM rfl rfl hm (fun ht hm=>?_) (fun ht hm=>?_)
 ·refine SX.seq (SX.rr rfl (SX.rt ?_))
  obtain rfl:=oj hm
  exact RetQ.mk (vs:=[AV.bool false]) rfl (.apart .bool)
 ·refine SX.sk ?_
  refine SX.seq (SX.seq ?_)
  refine SX.rr rfl ?_
  obtain ⟨o10,ho10,hm⟩:=bindE hm
  refine SX.forget (al':=[(2,AV.ptr 0 0 0 0),(3,AV.ptr 1 0 0 0),(5,AV.int .i64 0)]) (leA_of rfl) ?_
  refine SX.iter (fun (s3:Int) (g4:Unit)=>[(2,AV.ptr 0 0 0 0),(3,AV.ptr 1 0 0 0),(5,AV.int .i64 s3)]) (fun (s3:Int) (g4:Unit)=>[ABlk.row 0 2 [a.av],ABlk.row 0 2 [b.av]]) (fun (x8:Unit) (g9:Unit)=>[]) (fun (x8:Unit) (g9:Unit)=>[ABlk.row 0 2 [a.av],ABlk.row 0 2 [b.av]]) (fun r al df h=>Ret Tryz.prog Tryz.f38 (AV.bool r) al df h) () ho10 rfl rfl ?_ ?_ ?_
  ·intro s3 g4 out5 hb
   refine SX.seq (SX.seq ?_)
   refine SX.rn 3 rfl (SOps.light rfl rfl (lightV_len (f:=(AV.int .i64)) (xs:=a.tuples) rfl rfl Tryz.underlying28 rfl) rdNone (SOps.re rfl ?_))
   refine SX.condM rfl rfl hb (fun ht hb=>?_) (fun ht hb=>?_)
   ·refine SX.sk (SX.seq (SX.block (SX.seq (SX.draw follows_mixed rfl rdNone (PO.rn 3 rfl ?_)))))
    obtain ⟨y6,hy6,hb⟩:=bindE hb
    refine PO.light rfl rfl (lightV_idx (f:=(AV.int .i64)) (xs:=a.tuples) rfl rfl Tryz.underlying28 rfl hy6) (PO.rn 4 rfl ?_)
    obtain ⟨y7,hy7,hb⟩:=bindE hb
    refine PO.light rfl rfl (lightV_idx (f:=(AV.int .i64)) (xs:=b.tuples) rfl rfl Tryz.underlying28 rfl hy7) (PO.re rfl ?_)
    refine SX.condM rfl rfl hb (fun ht hb=>?_) (fun ht hb=>?_)
    ·refine SX.seq (SX.rr rfl (SX.rt ?_))
     exact eI _ (aI (ojs hb) (Ret.mk (vs:=[AV.bool false]) rfl (.apart .bool)))
    ·refine SX.sk (SX.rr rfl ?_)
     exact eI _ (eI () (aI (ojs hb) (CutTo.sr rfl)))
   ·refine SX.ex ?_
    exact aI rfl (eI _ (eI () (aI (ojs hb) (CutTo.sr rfl))))
  ·intro x8 g9 he
   subst he
   refine SX.seq (SX.rr rfl (SX.rt ?_))
   obtain rfl:=oj hm
   exact RetQ.mk (vs:=[AV.bool true]) rfl (.apart .bool)
  ·intro r al' df' h' hr hq
   subst hr
   obtain rfl:=oj hm
   exact hq
def m79 (F:Nat) (sp:Spec) (f:Field):Option Bool:=
 (runs (fun (s1:Int)=>
 (bif decide (s1 < (f.sorts.length:Int)) then
 ((idx f.sorts s1).bind fun y4=>
 bif decide (y4 < 0) then
 some (true)
 else
 (idx f.sorts s1).bind fun y5=>
 some (decide ((sp.sorts.length:Int)≤y5))).bind fun p6=>
 bif p6 then
 some (Out.ret false)
 else
 some (Out.next (w64 (s1 + 1)))
 else
 some (Out.exit (())):Option (Out (Int) (Unit) Bool))) F (0)).bind fun (o10:(Unit) ⊕ Bool)=>(match o10 with
 | .inl x8=>
 (bif decide (1≤(f.sorts.length:Int)) then
 some (decide ((f.sorts.length:Int)≤3))
 else
 some (false)).bind fun p11=>
 some p11
 | .inr r13=>some r13)
theorem c79 (F:Nat) (sp:Spec) (f:Field) (res:Bool) (hm:m79 F sp f = some res) (h:List ABlk):ACall Tryz.prog 79 [sp.av,f.av] h (.ret (AV.bool res)) h:=by
 unfold m79 at hm
 refine ACall.mir 0 Tryz.func79 rfl (.cons (Spec.apart _) (.cons (Field.apart _) .nil)) (nlst rfl) ?_ h
 show SX _ _ _ 40 _ _ _ _
 refine SX.seq (SX.rr rfl ?_)
 refine SX.seq (SX.seq ?_)
 refine SX.rr rfl ?_
 obtain ⟨o10,ho10,hm⟩:=bindE hm
 refine SX.forget (al':=[(2,AV.ptr 0 0 0 0),(3,AV.ptr 1 0 0 0),(5,AV.int .i64 0)]) (leA_of rfl) ?_
 refine SX.iter (fun (s1:Int) (g2:Unit)=>[(2,AV.ptr 0 0 0 0),(3,AV.ptr 1 0 0 0),(5,AV.int .i64 s1)]) (fun (s1:Int) (g2:Unit)=>[ABlk.row 0 4 [sp.av],ABlk.row 0 3 [f.av]]) (fun (x8:Unit) (g9:Unit)=>[(3,AV.ptr 1 0 0 0)]) (fun (x8:Unit) (g9:Unit)=>[ABlk.row 0 4 [sp.av],ABlk.row 0 3 [f.av]]) (fun r al df h=>Ret Tryz.prog Tryz.f79 (AV.bool r) al df h) () ho10 rfl rfl ?_ ?_ ?_
 ·intro s1 g2 out3 hb
  refine SX.seq (SX.seq ?_)
  refine SX.rn 3 rfl (SOps.light rfl rfl (lightV_len (f:=(AV.int .i64)) (xs:=f.sorts) rfl rfl Tryz.underlying28 rfl) rdNone (SOps.re rfl ?_))
  refine SX.condM rfl rfl hb (fun ht hb=>?_) (fun ht hb=>?_)
  ·refine SX.sk (SX.seq (SX.block (SX.seq ?_)))
   obtain ⟨p6,hj,hb⟩:=bindE hb
   refine SX.join ([(2,AV.ptr 0 0 0 0),(3,AV.ptr 1 0 0 0),(5,AV.int .i64 s1),(29,AV.bool p6)]) ([ABlk.row 0 4 [sp.av],ABlk.row 0 3 [f.av]]) (SX.draw follows_mixed rfl rdNone ?_) ?_
   ·refine PO.rn 3 rfl ?_
    obtain ⟨y4,hy4,hj⟩:=bindE hj
    refine PO.light rfl rfl (lightV_idx (f:=(AV.int .i64)) (xs:=f.sorts) rfl rfl Tryz.underlying28 rfl hy4) (PO.rn 2 rfl ?_)
    refine PO.splitM rfl rfl rfl hj (fun hj=>?_) (fun hj=>?_)
    ·refine PO.re rfl ?_
     obtain rfl:=oj hj
     exact ⟨rfl,CutTo.sr rfl⟩
    ·refine PO.rn 3 rfl ?_
     obtain ⟨y5,hy5,hj⟩:=bindE hj
     refine PO.light rfl rfl (lightV_idx (f:=(AV.int .i64)) (xs:=f.sorts) rfl rfl Tryz.underlying28 rfl hy5) (PO.rn 3 rfl (PO.light rfl rfl (lightV_len (f:=Sort'.av) (xs:=sp.sorts) rfl rfl Tryz.underlying22 rfl) (PO.re rfl ?_)))
     obtain rfl:=oj hj
     exact ⟨rfl,CutTo.sr rfl⟩
   refine SX.condM rfl rfl hb (fun ht hb=>?_) (fun ht hb=>?_)
   ·refine SX.seq (SX.rr rfl (SX.rt ?_))
    exact eI _ (aI (ojs hb) (Ret.mk (vs:=[AV.bool false]) rfl (.apart .bool)))
   ·refine SX.sk (SX.rr rfl ?_)
    exact eI _ (eI () (aI (ojs hb) (CutTo.sr rfl)))
  ·refine SX.ex ?_
   exact aI rfl (eI _ (eI () (aI (ojs hb) (CutTo.sr rfl))))
 ·intro x8 g9 he
  subst he
  refine SX.seq ?_
  obtain ⟨p11,hj,hm⟩:=bindE hm
  refine SX.join ([(4,AV.bool p11)]) ([ABlk.row 0 4 [sp.av],ABlk.row 0 3 [f.av]]) (SX.region ?_) ?_
  ·refine SOps.rn 2 rfl (SOps.light rfl rfl (lightV_len (f:=(AV.int .i64)) (xs:=f.sorts) rfl rfl Tryz.underlying28 rfl) rdNone (SOps.rn 1 rfl ?_))
   refine SOps.splitM rfl rfl rfl rdNone hj (fun hj=>?_) (fun hj=>?_)
   ·refine SOps.rn 2 rfl (SOps.light rfl rfl (lightV_len (f:=(AV.int .i64)) (xs:=f.sorts) rfl rfl Tryz.underlying28 rfl) rdNone (SOps.re rfl ?_))
    obtain rfl:=oj hj
    exact ⟨rfl,CutTo.sr rfl⟩
   ·refine SOps.re rfl ?_
    obtain rfl:=oj hj
    exact ⟨rfl,CutTo.sr rfl⟩
  refine SX.rt ?_
  obtain rfl:=oj hm
  exact RetQ.mk (vs:=[AV.bool p11]) rfl (.apart .bool)
 ·intro r al' df' h' hr hq
  subst hr
  obtain rfl:=oj hm
  exact hq
def m47 (F:Nat) (sp:Spec) (sc:Scope):Option Bool:=
 (bif ((sc.atoms.length:Int) != (sp.sorts.length:Int)) then
 some (true)
 else
 bif decide (4 < (sp.sorts.length:Int)) then
 some (true)
 else
 bif decide (sc.steps < 1) then
 some (true)
 else
 some (decide (4 < sc.steps))).bind fun p1=>
 bif p1 then
 some false
 else
 (runs (fun (s3:Int)=>
 (bif decide (s3 < (sc.atoms.length:Int)) then
 ((idx sc.atoms s3).bind fun y6=>
 bif decide (y6 < 1) then
 some (true)
 else
 (idx sc.atoms s3).bind fun y7=>
 some (decide (5 < y7))).bind fun p8=>
 bif p8 then
 some (Out.ret false)
 else
 some (Out.next (w64 (s3 + 1)))
 else
 some (Out.exit (())):Option (Out (Int) (Unit) Bool))) F (0)).bind fun (o12:(Unit) ⊕ Bool)=>(match o12 with
 | .inl x10=>
 (m48 F sc).bind fun y13=>
 some (decide (y13≤12))
 | .inr r14=>some r14)
theorem c47 (F:Nat) (sp:Spec) (sc:Scope) (res:Bool) (hm:m47 F sp sc = some res) (h:List ABlk):ACall Tryz.prog 47 [sp.av,sc.av] h (.ret (AV.bool res)) h:=by
 unfold m47 at hm
 refine ACall.mir 0 Tryz.func47 rfl (.cons (Spec.apart _) (.cons (Scope.apart _) .nil)) (nlst rfl) ?_ h
 show SX _ _ _ 53 _ _ _ _
 refine SX.seq (SX.rr rfl ?_)
 refine SX.seq (SX.seq ?_)
 obtain ⟨p1,hj,hm⟩:=bindE hm
 refine SX.join ([(3,AV.ptr 1 0 0 0),(28,AV.bool p1)]) ([ABlk.row 0 4 [sp.av],ABlk.row 0 2 [sc.av]]) (SX.region ?_) ?_
 ·refine SOps.rn 2 rfl (SOps.light rfl rfl (lightV_len (f:=(AV.int .i64)) (xs:=sc.atoms) rfl rfl Tryz.underlying28 rfl) rdNone (SOps.rn 2 rfl (SOps.light rfl rfl (lightV_len (f:=Sort'.av) (xs:=sp.sorts) rfl rfl Tryz.underlying22 rfl) rdNone (SOps.rn 1 rfl ?_))))
  refine SOps.splitM rfl rfl rfl rdNone hj (fun hj=>?_) (fun hj=>?_)
  ·refine SOps.re rfl ?_
   obtain rfl:=oj hj
   exact ⟨rfl,CutTo.sr rfl⟩
  ·refine SOps.rn 2 rfl (SOps.light rfl rfl (lightV_len (f:=Sort'.av) (xs:=sp.sorts) rfl rfl Tryz.underlying22 rfl) rdNone (SOps.rn 2 rfl ?_))
   refine SOps.splitM rfl rfl rfl rdNone hj (fun hj=>?_) (fun hj=>?_)
   ·refine SOps.re rfl ?_
    obtain rfl:=oj hj
    exact ⟨rfl,CutTo.sr rfl⟩
   ·refine SOps.rn 4 rfl ?_
    refine SOps.splitM rfl rfl rfl rdNone hj (fun hj=>?_) (fun hj=>?_)
    ·refine SOps.re rfl ?_
     obtain rfl:=oj hj
     exact ⟨rfl,CutTo.sr rfl⟩
    ·refine SOps.re rfl ?_
     obtain rfl:=oj hj
     exact ⟨rfl,CutTo.sr rfl⟩
 refine SX.condM rfl rfl hm (fun ht hm=>?_) (fun ht hm=>?_)
 ·refine SX.seq (SX.rr rfl (SX.rt ?_))
  obtain rfl:=oj hm
  exact RetQ.mk (vs:=[AV.bool false]) rfl (.apart .bool)
 ·refine SX.sk ?_
  refine SX.seq (SX.seq ?_)
  refine SX.rr rfl ?_
  obtain ⟨o12,ho12,hm⟩:=bindE hm
  refine SX.forget (al':=[(3,AV.ptr 1 0 0 0),(5,AV.int .i64 0)]) (leA_of rfl) ?_
  refine SX.iter (fun (s3:Int) (g4:Unit)=>[(3,AV.ptr 1 0 0 0),(5,AV.int .i64 s3)]) (fun (s3:Int) (g4:Unit)=>[ABlk.row 0 4 [sp.av],ABlk.row 0 2 [sc.av]]) (fun (x10:Unit) (g11:Unit)=>[(3,AV.ptr 1 0 0 0)]) (fun (x10:Unit) (g11:Unit)=>[ABlk.row 0 4 [sp.av],ABlk.row 0 2 [sc.av]]) (fun r al df h=>Ret Tryz.prog Tryz.f47 (AV.bool r) al df h) () ho12 rfl rfl ?_ ?_ ?_
  ·intro s3 g4 out5 hb
   refine SX.seq (SX.seq ?_)
   refine SX.rn 3 rfl (SOps.light rfl rfl (lightV_len (f:=(AV.int .i64)) (xs:=sc.atoms) rfl rfl Tryz.underlying28 rfl) rdNone (SOps.re rfl ?_))
   refine SX.condM rfl rfl hb (fun ht hb=>?_) (fun ht hb=>?_)
   ·refine SX.sk (SX.seq (SX.block (SX.seq ?_)))
    obtain ⟨p8,hj,hb⟩:=bindE hb
    refine SX.join ([(3,AV.ptr 1 0 0 0),(5,AV.int .i64 s3),(49,AV.bool p8)]) ([ABlk.row 0 4 [sp.av],ABlk.row 0 2 [sc.av]]) (SX.region ?_) ?_
    ·refine SOps.rn 3 rfl ?_
     obtain ⟨y6,hy6,hj⟩:=bindE hj
     refine SOps.light rfl rfl (lightV_idx (f:=(AV.int .i64)) (xs:=sc.atoms) rfl rfl Tryz.underlying28 rfl hy6) rdNone (SOps.rn 2 rfl ?_)
     refine SOps.splitM rfl rfl rfl rdNone hj (fun hj=>?_) (fun hj=>?_)
     ·refine SOps.re rfl ?_
      obtain rfl:=oj hj
      exact ⟨rfl,CutTo.sr rfl⟩
     ·refine SOps.rn 3 rfl ?_
      obtain ⟨y7,hy7,hj⟩:=bindE hj
      refine SOps.light rfl rfl (lightV_idx (f:=(AV.int .i64)) (xs:=sc.atoms) rfl rfl Tryz.underlying28 rfl hy7) rdNone (SOps.re rfl ?_)
      obtain rfl:=oj hj
      exact ⟨rfl,CutTo.sr rfl⟩
    refine SX.condM rfl rfl hb (fun ht hb=>?_) (fun ht hb=>?_)
    ·refine SX.seq (SX.rr rfl (SX.rt ?_))
     exact eI _ (aI (ojs hb) (Ret.mk (vs:=[AV.bool false]) rfl (.apart .bool)))
    ·refine SX.sk (SX.rr rfl ?_)
     exact eI _ (eI () (aI (ojs hb) (CutTo.sr rfl)))
   ·refine SX.ex ?_
    exact aI rfl (eI _ (eI () (aI (ojs hb) (CutTo.sr rfl))))
  ·intro x10 g11 he
   subst he
   refine SX.seq (SX.rn 1 rfl ?_)
   obtain ⟨y13,hy13,hm⟩:=bindE hm
   refine SOps.call rfl rfl rfl rfl rfl (c48 F sc y13 hy13 _) rdNone (SOps.re rfl (SX.rt ?_))
   obtain rfl:=oj hm
   exact RetQ.mk (vs:=[AV.bool (decide (y13≤12))]) rfl (.apart .bool)
  ·intro r al' df' h' hr hq
   subst hr
   obtain rfl:=oj hm
   exact hq
def m154 (F:Nat) (sc:Scope) (sort:Int):Option Int:=
 (runs (fun (s1:Int×Int)=>
 ((bif decide (s1.2 < sort) then
 some (decide (s1.2 < (sc.atoms.length:Int)))
 else
 some (false)).bind fun p4=>
 bif p4 then
 (idx sc.atoms s1.2).bind fun y6=>
 some (Out.next (w64 (s1.1 + y6),w64 (s1.2 + 1)))
 else
 some (Out.exit (s1.1)):Option (Out (Int×Int) (Int) Int))) F (0,0)).bind fun (o9:(Int) ⊕ Int)=>(match o9 with
 | .inl x7=>
 some x7
 | .inr r10=>some r10)
theorem c154 (F:Nat) (sc:Scope) (sort:Int) (res:Int) (hm:m154 F sc sort = some res) (h:List ABlk):ACall Tryz.prog 154 [sc.av,AV.int .i64 sort] h (.ret (AV.int .i64 res)) h:=by
 unfold m154 at hm
 refine ACall.mir 0 Tryz.func154 rfl (.cons (Scope.apart _) (.cons .int .nil)) (nlst rfl) ?_ h
 show SX _ _ _ 27 _ _ _ _
 refine SX.seq (SX.rr rfl (SX.seq (SX.rr rfl ?_)))
 refine SX.seq (SX.seq ?_)
 refine SX.rr rfl ?_
 obtain ⟨o9,ho9,hm⟩:=bindE hm
 refine SX.forget (al':=[(1,AV.int .i64 sort),(2,AV.ptr 0 0 0 0),(5,AV.int .i64 0),(6,AV.int .i64 0)]) (leA_of rfl) ?_
 refine SX.iter (fun (s1:Int×Int) (g2:Unit)=>[(1,AV.int .i64 sort),(2,AV.ptr 0 0 0 0),(5,AV.int .i64 s1.1),(6,AV.int .i64 s1.2)]) (fun (s1:Int×Int) (g2:Unit)=>[ABlk.row 0 2 [sc.av]]) (fun (x7:Int) (g8:Unit)=>[(5,AV.int .i64 x7)]) (fun (x7:Int) (g8:Unit)=>[ABlk.row 0 2 [sc.av]]) (fun r al df h=>Ret Tryz.prog Tryz.f154 (AV.int .i64 r) al df h) () ho9 rfl rfl ?_ ?_ ?_
 ·intro s1 g2 out3 hb
  refine SX.seq (SX.seq ?_)
  obtain ⟨p4,hj,hb⟩:=bindE hb
  refine SX.join ([(1,AV.int .i64 sort),(2,AV.ptr 0 0 0 0),(5,AV.int .i64 s1.1),(6,AV.int .i64 s1.2),(16,AV.bool p4)]) ([ABlk.row 0 2 [sc.av]]) (SX.region ?_) ?_
  ·refine SOps.rn 3 rfl ?_
   refine SOps.splitM rfl rfl rfl rdNone hj (fun hj=>?_) (fun hj=>?_)
   ·refine SOps.rn 3 rfl (SOps.light rfl rfl (lightV_len (f:=(AV.int .i64)) (xs:=sc.atoms) rfl rfl Tryz.underlying28 rfl) rdNone (SOps.re rfl ?_))
    obtain rfl:=oj hj
    exact ⟨rfl,CutTo.sr rfl⟩
   ·refine SOps.re rfl ?_
    obtain rfl:=oj hj
    exact ⟨rfl,CutTo.sr rfl⟩
  refine SX.condM rfl rfl hb (fun ht hb=>?_) (fun ht hb=>?_)
  ·refine SX.sk (SX.seq (SX.block (SX.rn 4 rfl ?_)))
   obtain ⟨y6,hy6,hb⟩:=bindE hb
   refine SOps.light rfl rfl (lightV_idx (f:=(AV.int .i64)) (xs:=sc.atoms) rfl rfl Tryz.underlying28 rfl hy6) rdNone (SOps.re rfl (SX.rr rfl ?_))
   exact eI _ (eI () (aI (ojs hb) (CutTo.sr rfl)))
  ·refine SX.ex ?_
   exact aI rfl (eI _ (eI () (aI (ojs hb) (CutTo.sr rfl))))
 ·intro x7 g8 he
  subst he
  refine SX.seq (SX.rr rfl (SX.rt ?_))
  obtain rfl:=oj hm
  exact RetQ.mk (vs:=[AV.int .i64 x7]) rfl (.apart .int)
 ·intro r al' df' h' hr hq
  subst hr
  obtain rfl:=oj hm
  exact hq
def m100 (F:Nat) (sc:Scope):Option Int:=
 (m154 F sc ((sc.atoms.length:Int))).bind fun y1=>
 some y1
theorem c100 (F:Nat) (sc:Scope) (res:Int) (hm:m100 F sc = some res) (h:List ABlk):ACall Tryz.prog 100 [sc.av] h (.ret (AV.int .i64 res)) h:=by
 unfold m100 at hm
 refine ACall.mir 0 Tryz.func100 rfl (.cons (Scope.apart _) .nil) (nlst rfl) ?_ h
 show SX _ _ _ 8 _ _ _ _
 refine SX.seq (SX.rr rfl (SX.seq (SX.rn 3 rfl (SOps.light rfl rfl (lightV_len (f:=(AV.int .i64)) (xs:=sc.atoms) rfl rfl Tryz.underlying28 rfl) rdNone ?_))))
 obtain ⟨y1,hy1,hm⟩:=bindE hm
 refine SOps.call rfl rfl rfl rfl rfl (c154 F sc ((sc.atoms.length:Int)) y1 hy1 _) rdNone (SOps.re rfl (SX.rt ?_))
 obtain rfl:=oj hm
 exact RetQ.mk (vs:=[AV.int .i64 y1]) rfl (.apart .int)
def m155 (F:Nat) (a:Rel) (b:Rel):Option Rel:=
 (runs (fun (s1:Int×List Int)=>
 (bif decide (s1.1 < (a.tuples.length:Int)) then
 (idx a.tuples s1.1).bind fun y4=>
 (m70 F b y4).bind fun y5=>
 bif (!y5) then
 (idx a.tuples s1.1).bind fun y6=>
 (app s1.2 ([y6])).bind fun y7=>
 some (Out.next (w64 (s1.1 + 1),y7))
 else
 some (Out.next (w64 (s1.1 + 1),s1.2))
 else
 some (Out.exit (s1.2)):Option (Out (Int×List Int) (List Int) Rel))) F (0,[])).bind fun (o11:(List Int) ⊕ Rel)=>(match o11 with
 | .inl x9=>
 some ((Rel.mk a.arity x9))
 | .inr r12=>some r12)
theorem c155 (F:Nat) (a:Rel) (b:Rel) (res:Rel) (hm:m155 F a b = some res) (h:List ABlk):ACall Tryz.prog 155 [a.av,b.av] h (.ret (res.av)) h:=by
 unfold m155 at hm
 refine ACall.mir 1 Tryz.func155 rfl (.cons (Rel.apart _) (.cons (Rel.apart _) .nil)) (nlst rfl) ?_ h
 show SX _ _ _ 36 _ _ _ _
 refine SX.seq (SX.rr rfl (SX.seq (SX.rr rfl ?_)))
 refine SX.seq (SX.seq ?_)
 refine SX.rr rfl ?_
 obtain ⟨o11,ho11,hm⟩:=bindE hm
 refine SX.forget (al':=[(2,AV.ptr 1 0 0 0),(3,AV.ptr 2 0 0 0),(4,AV.ptr 3 0 0 0),(5,AV.ptr 4 0 0 0),(6,AV.int .i64 0)]) (leA_of rfl) ?_
 refine SX.iter (fun (s1:Int×List Int) (g2:Nat)=>[(2,AV.ptr 1 0 0 0),(3,AV.ptr 2 0 0 0),(4,AV.ptr 3 0 0 0),(5,AV.ptr 4 0 0 0),(6,AV.int .i64 s1.1)]) (fun (s1:Int×List Int) (g2:Nat)=>[oblk 1 g2 (s1.2.map (AV.int .i64)),ABlk.row 0 2 [a.av],ABlk.row 0 2 [b.av],ABlk.row 0 2 [AV.agg [AV.int .i64 0,AV.nils]],ABlk.row 0 2 [AV.agg [AV.int .i64 a.arity,osl 0 g2 (s1.2.map (AV.int .i64))]]]) (fun (x9:List Int) (g10:Nat)=>[(4,AV.ptr 3 0 0 0),(5,AV.ptr 4 0 0 0)]) (fun (x9:List Int) (g10:Nat)=>[oblk 1 g10 (x9.map (AV.int .i64)),ABlk.row 0 2 [a.av],ABlk.row 0 2 [b.av],ABlk.row 0 2 [AV.agg [AV.int .i64 0,AV.nils]],ABlk.row 0 2 [AV.agg [AV.int .i64 a.arity,osl 0 g10 (x9.map (AV.int .i64))]]]) (fun r al df h=>Ret Tryz.prog Tryz.f155 (r.av) al df h) (0) ho11 rfl rfl ?_ ?_ ?_
 ·intro s1 g2 out3 hb
  refine SX.seq (SX.seq ?_)
  refine SX.rn 3 rfl (SOps.light rfl rfl (lightV_len (f:=(AV.int .i64)) (xs:=a.tuples) rfl rfl Tryz.underlying28 rfl) rdNone (SOps.re rfl ?_))
  refine SX.condM rfl rfl hb (fun ht hb=>?_) (fun ht hb=>?_)
  ·refine SX.sk (SX.seq (SX.block (SX.seq (SX.draw follows_mixed rfl rdNone (PO.rn 4 rfl ?_)))))
   obtain ⟨y4,hy4,hb⟩:=bindE hb
   refine PO.light rfl rfl (lightV_idx (f:=(AV.int .i64)) (xs:=a.tuples) rfl rfl Tryz.underlying28 rfl hy4) (PO.rn 1 rfl ?_)
   obtain ⟨y5,hy5,hb⟩:=bindE hb
   refine PO.call rfl rfl rfl rfl rfl (c70 F b y4 y5 hy5 _) (PO.re rfl ?_)
   refine SX.condM rfl rfl hb (fun ht hb=>?_) (fun ht hb=>?_)
   ·refine SX.drawS 1280 follows_mixed rfl rfl (QO.light (v:=_) rfl rfl rfl (QO.light rfl rfl (lightV_loadC rfl rfl rfl rfl rfl isAgg_osl) ?_))
    iterate 3 refine QO.light (v:=_) rfl rfl rfl ?_
    obtain ⟨y6,hy6,hb⟩:=bindE hb
    refine QO.light rfl rfl (lightV_idx (f:=(AV.int .i64)) (xs:=a.tuples) rfl rfl Tryz.underlying28 rfl hy6) (QO.light (v:=_) rfl rfl rfl (QO.heavy0 (v:=_) rfl rfl rfl ?_))
    obtain ⟨y7,hy7,hb⟩:=bindE hb
    refine QO.growM (f:=(AV.int .i64)) (xs:=s1.2) (ys:=[y6]) (b:=0) (g:=g2) rfl rfl rfl rfl rfl rfl rfl rfl rfl rfl (fun _=>rfl) rfl hy7 fun g8=>(QO.light (v:=_) rfl rfl rfl (QO.heavy (v:=.poison) rfl rfl rfl (heavyV_storeC rfl rfl rfl cells_osl rfl (allB solid_osl rfl) rfl) (QO.nil (SX.rr rfl ?_))))
    exact eI _ (eI (g8) (aI (ojs hb) (CutTo.sr rfl)))
   ·refine SX.sk (SX.rr rfl ?_)
    exact eI _ (eI (g2) (aI (ojs hb) (CutTo.sr rfl)))
  ·refine SX.ex ?_
   exact aI rfl (eI _ (eI (g2) (aI (ojs hb) (CutTo.sr rfl))))
 ·intro x9 g10 he
  subst he
  refine SX.seq (SX.rn 1 rfl (SOps.heavy (v:=.poison) rfl rfl (heavyV_storeC rfl rfl rfl rfl rfl (allB rfl (allB solid_osl rfl)) rfl) rdNone (SOps.nil rdNone (SX.rt ?_))))
  obtain rfl:=oj hm
  exact RetQ.mk (vs:=[AV.agg [AV.int .i64 a.arity,osl 0 g10 (x9.map (AV.int .i64))]]) rfl (.agg (.cons (.apart .int) (.cons (frozen_osl rfl (ApartL.map fun _ _=>.int)) .nil)))
 ·intro r al' df' h' hr hq
  subst hr
  obtain rfl:=oj hm
  exact hq
def m101 (F:Nat) (a:Rel) (b:Rel):Option Bool:=
 (m155 F a b).bind fun y1=>
 some (((y1.tuples.length:Int) == 0))
theorem c101 (F:Nat) (a:Rel) (b:Rel) (res:Bool) (hm:m101 F a b = some res) (h:List ABlk):ACall Tryz.prog 101 [a.av,b.av] h (.ret (AV.bool res)) h:=by
 unfold m101 at hm
 refine ACall.mir 0 Tryz.func101 rfl (.cons (Rel.apart _) (.cons (Rel.apart _) .nil)) (nlst rfl) ?_ h
 show SX _ _ _ 11 _ _ _ _
 refine SX.seq (SX.rr rfl (SX.seq (SX.rn 2 rfl ?_)))
 obtain ⟨y1,hy1,hm⟩:=bindE hm
 refine SOps.call rfl rfl rfl rfl rfl (c155 F a b y1 hy1 _) rdNone (SOps.rn 1 rfl (SOps.light rfl rfl (lightV_len (f:=(AV.int .i64)) (xs:=y1.tuples) rfl rfl Tryz.underlying28 rfl) rdNone (SOps.re rfl (SX.rt ?_))))
 obtain rfl:=oj hm
 exact RetQ.mk (vs:=[AV.bool (((y1.tuples.length:Int) == 0))]) rfl (.apart .bool)
def m156 (F:Nat) (sc:Scope) (arity:Int):Option Int:=
 (runs (fun (s1:Int×Int)=>
 ((bif decide (s1.2 < arity) then
 some (decide (s1.2 < 3))
 else
 some (false)).bind fun p4=>
 bif p4 then
 (m100 F sc).bind fun y6=>
 some (Out.next (w64 (s1.1 * y6),w64 (s1.2 + 1)))
 else
 some (Out.exit (s1.1)):Option (Out (Int×Int) (Int) Int))) F (1,0)).bind fun (o9:(Int) ⊕ Int)=>(match o9 with
 | .inl x7=>
 some x7
 | .inr r10=>some r10)
theorem c156 (F:Nat) (sc:Scope) (arity:Int) (res:Int) (hm:m156 F sc arity = some res) (h:List ABlk):ACall Tryz.prog 156 [sc.av,AV.int .i64 arity] h (.ret (AV.int .i64 res)) h:=by
 unfold m156 at hm
 refine ACall.mir 0 Tryz.func156 rfl (.cons (Scope.apart _) (.cons .int .nil)) (nlst rfl) ?_ h
 show SX _ _ _ 21 _ _ _ _
 refine SX.seq (SX.rr rfl (SX.seq (SX.rr rfl ?_)))
 refine SX.seq (SX.seq ?_)
 refine SX.rr rfl ?_
 obtain ⟨o9,ho9,hm⟩:=bindE hm
 refine SX.forget (al':=[(1,AV.int .i64 arity),(2,AV.ptr 0 0 0 0),(5,AV.int .i64 1),(6,AV.int .i64 0)]) (leA_of rfl) ?_
 refine SX.iter (fun (s1:Int×Int) (g2:Unit)=>[(1,AV.int .i64 arity),(2,AV.ptr 0 0 0 0),(5,AV.int .i64 s1.1),(6,AV.int .i64 s1.2)]) (fun (s1:Int×Int) (g2:Unit)=>[ABlk.row 0 2 [sc.av]]) (fun (x7:Int) (g8:Unit)=>[(5,AV.int .i64 x7)]) (fun (x7:Int) (g8:Unit)=>[ABlk.row 0 2 [sc.av]]) (fun r al df h=>Ret Tryz.prog Tryz.f156 (AV.int .i64 r) al df h) () ho9 rfl rfl ?_ ?_ ?_
 ·intro s1 g2 out3 hb
  refine SX.seq (SX.seq ?_)
  obtain ⟨p4,hj,hb⟩:=bindE hb
  refine SX.join ([(1,AV.int .i64 arity),(2,AV.ptr 0 0 0 0),(5,AV.int .i64 s1.1),(6,AV.int .i64 s1.2),(13,AV.bool p4)]) ([ABlk.row 0 2 [sc.av]]) (SX.region ?_) ?_
  ·refine SOps.rn 3 rfl ?_
   refine SOps.splitM rfl rfl rfl rdNone hj (fun hj=>?_) (fun hj=>?_)
   ·refine SOps.re rfl ?_
    obtain rfl:=oj hj
    exact ⟨rfl,CutTo.sr rfl⟩
   ·refine SOps.re rfl ?_
    obtain rfl:=oj hj
    exact ⟨rfl,CutTo.sr rfl⟩
  refine SX.condM rfl rfl hb (fun ht hb=>?_) (fun ht hb=>?_)
  ·refine SX.sk (SX.seq (SX.block (SX.rn 2 rfl ?_)))
   obtain ⟨y6,hy6,hb⟩:=bindE hb
   refine SOps.call rfl rfl rfl rfl rfl (c100 F sc y6 hy6 _) rdNone (SOps.re rfl (SX.rr rfl ?_))
   exact eI _ (eI () (aI (ojs hb) (CutTo.sr rfl)))
  ·refine SX.ex ?_
   exact aI rfl (eI _ (eI () (aI (ojs hb) (CutTo.sr rfl))))
 ·intro x7 g8 he
  subst he
  refine SX.seq (SX.rr rfl (SX.rt ?_))
  obtain rfl:=oj hm
  exact RetQ.mk (vs:=[AV.int .i64 x7]) rfl (.apart .int)
 ·intro r al' df' h' hr hq
  subst hr
  obtain rfl:=oj hm
  exact hq
def m225 (F:Nat) (sc:Scope) (atom:Int):Option Int:=
 (runs (fun (s1:Int)=>
 (bif decide (s1 < (sc.atoms.length:Int)) then
 ((m154 F sc s1).bind fun y4=>
 bif decide (y4≤atom) then
 (m154 F sc (w64 (s1 + 1))).bind fun y5=>
 some (decide (atom < y5))
 else
 some (false)).bind fun p6=>
 bif p6 then
 some (Out.ret s1)
 else
 some (Out.next (w64 (s1 + 1)))
 else
 some (Out.exit (())):Option (Out (Int) (Unit) Int))) F (0)).bind fun (o10:(Unit) ⊕ Int)=>(match o10 with
 | .inl x8=>
 some ((-1))
 | .inr r11=>some r11)
theorem c225 (F:Nat) (sc:Scope) (atom:Int) (res:Int) (hm:m225 F sc atom = some res) (h:List ABlk):ACall Tryz.prog 225 [sc.av,AV.int .i64 atom] h (.ret (AV.int .i64 res)) h:=by
 unfold m225 at hm
 refine ACall.mir 0 Tryz.func225 rfl (.cons (Scope.apart _) (.cons .int .nil)) (nlst rfl) ?_ h
 show SX _ _ _ 27 _ _ _ _
 refine SX.seq (SX.rr rfl ?_)
 refine SX.seq (SX.seq ?_)
 refine SX.rr rfl ?_
 obtain ⟨o10,ho10,hm⟩:=bindE hm
 refine SX.forget (al':=[(1,AV.int .i64 atom),(2,AV.ptr 0 0 0 0),(5,AV.int .i64 0)]) (leA_of rfl) ?_
 refine SX.iter (fun (s1:Int) (g2:Unit)=>[(1,AV.int .i64 atom),(2,AV.ptr 0 0 0 0),(5,AV.int .i64 s1)]) (fun (s1:Int) (g2:Unit)=>[ABlk.row 0 2 [sc.av]]) (fun (x8:Unit) (g9:Unit)=>[]) (fun (x8:Unit) (g9:Unit)=>[ABlk.row 0 2 [sc.av]]) (fun r al df h=>Ret Tryz.prog Tryz.f225 (AV.int .i64 r) al df h) () ho10 rfl rfl ?_ ?_ ?_
 ·intro s1 g2 out3 hb
  refine SX.seq (SX.seq ?_)
  refine SX.rn 3 rfl (SOps.light rfl rfl (lightV_len (f:=(AV.int .i64)) (xs:=sc.atoms) rfl rfl Tryz.underlying28 rfl) rdNone (SOps.re rfl ?_))
  refine SX.condM rfl rfl hb (fun ht hb=>?_) (fun ht hb=>?_)
  ·refine SX.sk (SX.seq (SX.block (SX.seq ?_)))
   obtain ⟨p6,hj,hb⟩:=bindE hb
   refine SX.join ([(1,AV.int .i64 atom),(2,AV.ptr 0 0 0 0),(5,AV.int .i64 s1),(25,AV.bool p6)]) ([ABlk.row 0 2 [sc.av]]) (SX.region ?_) ?_
   ·refine SOps.rn 3 rfl ?_
    obtain ⟨y4,hy4,hj⟩:=bindE hj
    refine SOps.call rfl rfl rfl rfl rfl (c154 F sc s1 y4 hy4 _) rdNone (SOps.rn 1 rfl ?_)
    refine SOps.splitM rfl rfl rfl rdNone hj (fun hj=>?_) (fun hj=>?_)
    ·refine SOps.rn 4 rfl ?_
     obtain ⟨y5,hy5,hj⟩:=bindE hj
     refine SOps.call rfl rfl rfl rfl rfl (c154 F sc (w64 (s1 + 1)) y5 hy5 _) rdNone (SOps.re rfl ?_)
     obtain rfl:=oj hj
     exact ⟨rfl,CutTo.sr rfl⟩
    ·refine SOps.re rfl ?_
     obtain rfl:=oj hj
     exact ⟨rfl,CutTo.sr rfl⟩
   refine SX.condM rfl rfl hb (fun ht hb=>?_) (fun ht hb=>?_)
   ·refine SX.seq (SX.rr rfl (SX.rt ?_))
    exact eI _ (aI (ojs hb) (Ret.mk (vs:=[AV.int .i64 s1]) rfl (.apart .int)))
   ·refine SX.sk (SX.rr rfl ?_)
    exact eI _ (eI () (aI (ojs hb) (CutTo.sr rfl)))
  ·refine SX.ex ?_
   exact aI rfl (eI _ (eI () (aI (ojs hb) (CutTo.sr rfl))))
 ·intro x8 g9 he
  subst he
  refine SX.seq (SX.rr rfl (SX.rt ?_))
  obtain rfl:=oj hm
  exact RetQ.mk (vs:=[AV.int .i64 ((-1))]) rfl (.apart .int)
 ·intro r al' df' h' hr hq
  subst hr
  obtain rfl:=oj hm
  exact hq
def m158 (F:Nat) (sc:Scope) (tuple:List Int) (sorts:List Int):Option Bool:=
 (runs (fun (s1:Int)=>
 (bif decide (s1 < (sorts.length:Int)) then
 (idx tuple s1).bind fun y4=>
 (m225 F sc y4).bind fun y5=>
 (idx sorts s1).bind fun y6=>
 bif (y5 != y6) then
 some (Out.ret false)
 else
 some (Out.next (w64 (s1 + 1)))
 else
 some (Out.exit (())):Option (Out (Int) (Unit) Bool))) F (0)).bind fun (o9:(Unit) ⊕ Bool)=>(match o9 with
 | .inl x7=>
 some true
 | .inr r10=>some r10)
theorem c158 (F:Nat) (sc:Scope) (tuple:List Int) (sorts:List Int) (res:Bool) (hm:m158 F sc tuple sorts = some res) (h:List ABlk):ACall Tryz.prog 158 [sc.av,AV.vw 1 (tuple.map (AV.int .i64)),AV.vw 1 (sorts.map (AV.int .i64))] h (.ret (AV.bool res)) h:=by
 unfold m158 at hm
 refine ACall.mir 0 Tryz.func158 rfl (.cons (Scope.apart _) (.cons (.vw (ApartL.map fun _ _=>.int)) (.cons (.vw (ApartL.map fun _ _=>.int)) .nil))) (nlst rfl) ?_ h
 show SX _ _ _ 25 _ _ _ _
 refine SX.seq (SX.rr rfl ?_)
 refine SX.seq (SX.seq ?_)
 refine SX.rr rfl ?_
 obtain ⟨o9,ho9,hm⟩:=bindE hm
 refine SX.forget (al':=[(1,AV.vw 1 (tuple.map (AV.int .i64))),(2,AV.vw 1 (sorts.map (AV.int .i64))),(3,AV.ptr 0 0 0 0),(7,AV.int .i64 0)]) (leA_of rfl) ?_
 refine SX.iter (fun (s1:Int) (g2:Unit)=>[(1,AV.vw 1 (tuple.map (AV.int .i64))),(2,AV.vw 1 (sorts.map (AV.int .i64))),(3,AV.ptr 0 0 0 0),(7,AV.int .i64 s1)]) (fun (s1:Int) (g2:Unit)=>[ABlk.row 0 2 [sc.av]]) (fun (x7:Unit) (g8:Unit)=>[]) (fun (x7:Unit) (g8:Unit)=>[ABlk.row 0 2 [sc.av]]) (fun r al df h=>Ret Tryz.prog Tryz.f158 (AV.bool r) al df h) () ho9 rfl rfl ?_ ?_ ?_
 ·intro s1 g2 out3 hb
  refine SX.seq (SX.seq ?_)
  refine SX.rn 2 rfl (SOps.light rfl rfl (lightV_len (f:=(AV.int .i64)) (xs:=sorts) rfl rfl Tryz.underlying28 rfl) rdNone (SOps.re rfl ?_))
  refine SX.condM rfl rfl hb (fun ht hb=>?_) (fun ht hb=>?_)
  ·refine SX.sk (SX.seq (SX.block (SX.seq (SX.draw follows_mixed rfl rdNone (PO.rn 3 rfl ?_)))))
   obtain ⟨y4,hy4,hb⟩:=bindE hb
   refine PO.light rfl rfl (lightV_idx (f:=(AV.int .i64)) (xs:=tuple) rfl rfl Tryz.underlying28 rfl hy4) (PO.rn 1 rfl ?_)
   obtain ⟨y5,hy5,hb⟩:=bindE hb
   refine PO.call rfl rfl rfl rfl rfl (c225 F sc y4 y5 hy5 _) (PO.rn 2 rfl ?_)
   obtain ⟨y6,hy6,hb⟩:=bindE hb
   refine PO.light rfl rfl (lightV_idx (f:=(AV.int .i64)) (xs:=sorts) rfl rfl Tryz.underlying28 rfl hy6) (PO.re rfl ?_)
   refine SX.condM rfl rfl hb (fun ht hb=>?_) (fun ht hb=>?_)
   ·refine SX.seq (SX.rr rfl (SX.rt ?_))
    exact eI _ (aI (ojs hb) (Ret.mk (vs:=[AV.bool false]) rfl (.apart .bool)))
   ·refine SX.sk (SX.rr rfl ?_)
    exact eI _ (eI () (aI (ojs hb) (CutTo.sr rfl)))
  ·refine SX.ex ?_
   exact aI rfl (eI _ (eI () (aI (ojs hb) (CutTo.sr rfl))))
 ·intro x7 g8 he
  subst he
  refine SX.seq (SX.rr rfl (SX.rt ?_))
  obtain rfl:=oj hm
  exact RetQ.mk (vs:=[AV.bool true]) rfl (.apart .bool)
 ·intro r al' df' h' hr hq
  subst hr
  obtain rfl:=oj hm
  exact hq
def m81 (F:Nat) (sc:Scope) (sorts:List Int) (r:Rel):Option Bool:=
 (m48 F sc).bind fun y1=>
 (runs (fun (s2:Int)=>
 (bif decide (s2 < (r.tuples.length:Int)) then
 (idx r.tuples s2).bind fun y5=>
 (runs (fun (s6:Int×Int)=>
 (bif decide (0≤s6.2) then
 (remO s6.1 (mm64 true 1 y1)).bind fun y9=>
 (m127 F sc y9).bind fun y10=>
 (idx sorts s6.2).bind fun y11=>
 bif (y10 != y11) then
 some (Out.ret false)
 else
 (quoO s6.1 (mm64 true 1 y1)).bind fun y12=>
 some (Out.next (y12,w64 (s6.2 - 1)))
 else
 some (Out.exit (())):Option (Out (Int×Int) (Unit) Bool))) F (y5,w64 ((sorts.length:Int) - 1))).bind fun (o15:(Unit) ⊕ Bool)=>(match o15 with
 | .inl x13=>
 some (Out.next (w64 (s2 + 1)))
 | .inr r16=>some (Out.ret r16))
 else
 some (Out.exit (())):Option (Out (Int) (Unit) Bool))) F (0)).bind fun (o19:(Unit) ⊕ Bool)=>(match o19 with
 | .inl x17=>
 some true
 | .inr r20=>some r20)
theorem c81 (F:Nat) (sc:Scope) (sorts:List Int) (r:Rel) (res:Bool) (hm:m81 F sc sorts r = some res) (h:List ABlk):ACall Tryz.prog 81 [sc.av,AV.vw 1 (sorts.map (AV.int .i64)),r.av] h (.ret (AV.bool res)) h:=by
 unfold m81 at hm
 refine ACall.mir 0 Tryz.func81 rfl (.cons (Scope.apart _) (.cons (.vw (ApartL.map fun _ _=>.int)) (.cons (Rel.apart _) .nil))) (nlst rfl) ?_ h
 show SX _ _ _ 46 _ _ _ _
 refine SX.seq (SX.rr rfl (SX.seq (SX.rn 1 rfl ?_)))
 obtain ⟨y1,hy1,hm⟩:=bindE hm
 refine SOps.call rfl rfl rfl rfl rfl (c48 F sc y1 hy1 _) rdNone (SOps.re rfl ?_)
 refine SX.seq (SX.seq ?_)
 refine SX.rr rfl ?_
 obtain ⟨o19,ho19,hm⟩:=bindE hm
 refine SX.forget (al':=[(1,AV.vw 1 (sorts.map (AV.int .i64))),(3,AV.ptr 0 0 0 0),(5,AV.ptr 1 0 0 0),(7,AV.int .i64 (mm64 true 1 y1)),(8,AV.int .i64 0)]) (leA_of rfl) ?_
 refine SX.iter (fun (s2:Int) (g3:Unit)=>[(1,AV.vw 1 (sorts.map (AV.int .i64))),(3,AV.ptr 0 0 0 0),(5,AV.ptr 1 0 0 0),(7,AV.int .i64 (mm64 true 1 y1)),(8,AV.int .i64 s2)]) (fun (s2:Int) (g3:Unit)=>[ABlk.row 0 2 [sc.av],ABlk.row 0 2 [r.av]]) (fun (x17:Unit) (g18:Unit)=>[]) (fun (x17:Unit) (g18:Unit)=>[ABlk.row 0 2 [sc.av],ABlk.row 0 2 [r.av]]) (fun r al df h=>Ret Tryz.prog Tryz.f81 (AV.bool r) al df h) () ho19 rfl rfl ?_ ?_ ?_
 ·intro s2 g3 out4 hb
  refine SX.seq (SX.seq ?_)
  refine SX.rn 3 rfl (SOps.light rfl rfl (lightV_len (f:=(AV.int .i64)) (xs:=r.tuples) rfl rfl Tryz.underlying28 rfl) rdNone (SOps.re rfl ?_))
  refine SX.condM rfl rfl hb (fun ht hb=>?_) (fun ht hb=>?_)
  ·refine SX.sk (SX.seq (SX.block (SX.seq (SX.rn 3 rfl ?_))))
   obtain ⟨y5,hy5,hb⟩:=bindE hb
   refine SOps.light rfl rfl (lightV_idx (f:=(AV.int .i64)) (xs:=r.tuples) rfl rfl Tryz.underlying28 rfl hy5) rdNone (SOps.re rfl (SX.seq (SX.rn 1 rfl (SOps.light rfl rfl (lightV_len (f:=(AV.int .i64)) (xs:=sorts) rfl rfl Tryz.underlying28 rfl) rdNone (SOps.re rfl ?_)))))
   obtain ⟨o15,ho15,hb⟩:=bindE hb
   refine SX.forget (al':=[(1,AV.vw 1 (sorts.map (AV.int .i64))),(3,AV.ptr 0 0 0 0),(5,AV.ptr 1 0 0 0),(7,AV.int .i64 (mm64 true 1 y1)),(8,AV.int .i64 s2),(9,AV.int .i64 y5),(10,AV.int .i64 (w64 ((sorts.length:Int) - 1)))]) (leA_of rfl) ?_
   refine SX.iter (fun (s6:Int×Int) (g7:Unit)=>[(1,AV.vw 1 (sorts.map (AV.int .i64))),(3,AV.ptr 0 0 0 0),(5,AV.ptr 1 0 0 0),(7,AV.int .i64 (mm64 true 1 y1)),(8,AV.int .i64 s2),(9,AV.int .i64 s6.1),(10,AV.int .i64 s6.2)]) (fun (s6:Int×Int) (g7:Unit)=>[ABlk.row 0 2 [sc.av],ABlk.row 0 2 [r.av]]) (fun (x13:Unit) (g14:Unit)=>[(1,AV.vw 1 (sorts.map (AV.int .i64))),(3,AV.ptr 0 0 0 0),(5,AV.ptr 1 0 0 0),(7,AV.int .i64 (mm64 true 1 y1)),(8,AV.int .i64 s2)]) (fun (x13:Unit) (g14:Unit)=>[ABlk.row 0 2 [sc.av],ABlk.row 0 2 [r.av]]) (fun r al df h=>Ret Tryz.prog Tryz.f81 (AV.bool r) al df h) () ho15 rfl rfl ?_ ?_ ?_
   ·intro s6 g7 out8 hb
    refine SX.seq (SX.seq ?_)
    refine SX.rr rfl ?_
    refine SX.condM rfl rfl hb (fun ht hb=>?_) (fun ht hb=>?_)
    ·refine SX.sk (SX.seq (SX.block ?_))
     refine SX.seq (SX.seq ?_)
     refine SX.draw follows_mixed rfl rdNone (PO.rn 3 rfl ?_)
     obtain ⟨y9,hy9,hb⟩:=bindE hb
     refine PO.light rfl rfl (lightV_rem rfl rfl hy9) ?_
     obtain ⟨y10,hy10,hb⟩:=bindE hb
     refine PO.call rfl rfl rfl rfl rfl (c127 F sc y9 y10 hy10 _) (PO.rn 2 rfl ?_)
     obtain ⟨y11,hy11,hb⟩:=bindE hb
     refine PO.light rfl rfl (lightV_idx (f:=(AV.int .i64)) (xs:=sorts) rfl rfl Tryz.underlying28 rfl hy11) (PO.re rfl ?_)
     refine SX.condM rfl rfl hb (fun ht hb=>?_) (fun ht hb=>?_)
     ·refine SX.seq (SX.rr rfl (SX.rt ?_))
      exact eI _ (aI (ojs hb) (Ret.mk (vs:=[AV.bool false]) rfl (.apart .bool)))
     ·refine SX.sk (SX.rn 2 rfl ?_)
      obtain ⟨y12,hy12,hb⟩:=bindE hb
      refine SOps.light rfl rfl (lightV_quo rfl rfl hy12) rdNone (SOps.re rfl (SX.rr rfl ?_))
      exact eI _ (eI () (aI (ojs hb) (CutTo.sr rfl)))
    ·refine SX.ex ?_
     exact aI rfl (eI _ (eI () (aI (ojs hb) (CutTo.sr rfl))))
   ·intro x13 g14 he
    subst he
    refine SX.rr rfl ?_
    exact eI _ (eI () (aI (ojs hb) (CutTo.sr rfl)))
   ·intro r al' df' h' hr hq
    subst hr
    exact eI _ (aI (ojs hb) hq)
  ·refine SX.ex ?_
   exact aI rfl (eI _ (eI () (aI (ojs hb) (CutTo.sr rfl))))
 ·intro x17 g18 he
  subst he
  refine SX.seq (SX.rr rfl (SX.rt ?_))
  obtain rfl:=oj hm
  exact RetQ.mk (vs:=[AV.bool true]) rfl (.apart .bool)
 ·intro r al' df' h' hr hq
  subst hr
  obtain rfl:=oj hm
  exact hq
def m26 (F:Nat) (sp:Spec) (m:Model):Option Bool:=
 ((m47 F sp m.scope).bind fun y1=>
 bif (!y1) then
 some (true)
 else
 bif ((m.states.length:Int) != m.scope.steps) then
 some (true)
 else
 bif decide (m.loop < 0) then
 some (true)
 else
 some (decide (m.scope.steps≤m.loop))).bind fun p2=>
 bif p2 then
 some false
 else
 (m48 F m.scope).bind fun y4=>
 (runs (fun (s5:Int)=>
 (bif decide (s5 < (sp.fields.length:Int)) then
 (idx sp.fields s5).bind fun y8=>
 (m79 F sp y8).bind fun y9=>
 bif (!y9) then
 some (Out.ret false)
 else
 (runs (fun (s10:Int)=>
 (bif decide (s10 < (m.states.length:Int)) then
 (idx m.states s10).bind fun y13=>
 bif ((y13.length:Int) != (sp.fields.length:Int)) then
 some (Out.ret false)
 else
 (idx m.states s10).bind fun y14=>
 (idx y14 s5).bind fun y15=>
 (bif (y15.arity != (y8.sorts.length:Int)) then
 some (true)
 else
 (m80 F y4 y15).bind fun y16=>
 bif (!y16) then
 some (true)
 else
 (m81 F m.scope y8.sorts y15).bind fun y17=>
 bif (!y17) then
 some (true)
 else
 bif (!y8.var) then
 (idx m.states 0).bind fun y18=>
 (idx y18 s5).bind fun y19=>
 (m38 F y15 y19).bind fun y20=>
 some ((!y20))
 else
 some (false)).bind fun p21=>
 bif p21 then
 some (Out.ret false)
 else
 some (Out.next (w64 (s10 + 1)))
 else
 some (Out.exit (())):Option (Out (Int) (Unit) Bool))) F (0)).bind fun (o25:(Unit) ⊕ Bool)=>(match o25 with
 | .inl x23=>
 some (Out.next (w64 (s5 + 1)))
 | .inr r26=>some (Out.ret r26))
 else
 some (Out.exit (())):Option (Out (Int) (Unit) Bool))) F (0)).bind fun (o29:(Unit) ⊕ Bool)=>(match o29 with
 | .inl x27=>
 (runs (fun (s30:Int)=>
 (bif decide (s30 < (m.states.length:Int)) then
 (idx m.states s30).bind fun y33=>
 bif ((y33.length:Int) != (sp.fields.length:Int)) then
 some (Out.ret false)
 else
 some (Out.next (w64 (s30 + 1)))
 else
 some (Out.exit (())):Option (Out (Int) (Unit) Bool))) F (0)).bind fun (o36:(Unit) ⊕ Bool)=>(match o36 with
 | .inl x34=>
 some true
 | .inr r37=>some r37)
 | .inr r38=>some r38)
theorem c26 (F:Nat) (sp:Spec) (m:Model) (res:Bool) (hm:m26 F sp m = some res) (h:List ABlk):ACall Tryz.prog 26 [sp.av,m.av] h (.ret (AV.bool res)) h:=by
 unfold m26 at hm
 refine ACall.mir 0 Tryz.func26 rfl (.cons (Spec.apart _) (.cons (Model.apart _) .nil)) (nlst rfl) ?_ h
 show SX _ _ _ 137 _ _ _ _
 refine SX.seq (SX.rr rfl ?_)
 refine SX.seq (SX.seq ?_)
 obtain ⟨p2,hj,hm⟩:=bindE hm
 refine SX.join ([(2,AV.ptr 0 0 0 0),(3,AV.ptr 1 0 0 0),(37,AV.bool p2)]) ([ABlk.row 0 4 [sp.av],ABlk.row 0 4 [m.av]]) (SX.region ?_) ?_
 ·refine SOps.rn 3 rfl ?_
  obtain ⟨y1,hy1,hj⟩:=bindE hj
  refine SOps.call rfl rfl rfl rfl rfl (c47 F sp m.scope y1 hy1 _) rdNone (SOps.rn 1 rfl ?_)
  refine SOps.splitM rfl rfl rfl rdNone hj (fun hj=>?_) (fun hj=>?_)
  ·refine SOps.re rfl ?_
   obtain rfl:=oj hj
   exact ⟨rfl,CutTo.sr rfl⟩
  ·refine SOps.rn 2 rfl (SOps.light rfl rfl (lightV_len (f:=(fun l=>AV.vw 2 (l.map Rel.av))) (xs:=m.states) rfl rfl Tryz.underlying35 rfl) rdNone (SOps.rn 5 rfl ?_))
   refine SOps.splitM rfl rfl rfl rdNone hj (fun hj=>?_) (fun hj=>?_)
   ·refine SOps.re rfl ?_
    obtain rfl:=oj hj
    exact ⟨rfl,CutTo.sr rfl⟩
   ·refine SOps.rn 4 rfl ?_
    refine SOps.splitM rfl rfl rfl rdNone hj (fun hj=>?_) (fun hj=>?_)
    ·refine SOps.re rfl ?_
     obtain rfl:=oj hj
     exact ⟨rfl,CutTo.sr rfl⟩
    ·refine SOps.re rfl ?_
     obtain rfl:=oj hj
     exact ⟨rfl,CutTo.sr rfl⟩
 refine SX.condM rfl rfl hm (fun ht hm=>?_) (fun ht hm=>?_)
 ·refine SX.seq (SX.rr rfl (SX.rt ?_))
  obtain rfl:=oj hm
  exact RetQ.mk (vs:=[AV.bool false]) rfl (.apart .bool)
 ·refine SX.sk (SX.seq (SX.rn 2 rfl ?_))
  obtain ⟨y4,hy4,hm⟩:=bindE hm
  refine SOps.call rfl rfl rfl rfl rfl (c48 F m.scope y4 hy4 _) rdNone (SOps.re rfl ?_)
  refine SX.seq (SX.seq ?_)
  refine SX.rr rfl ?_
  obtain ⟨o29,ho29,hm⟩:=bindE hm
  refine SX.forget (al':=[(2,AV.ptr 0 0 0 0),(3,AV.ptr 1 0 0 0),(5,AV.int .i64 y4),(6,AV.int .i64 0)]) (leA_of rfl) ?_
  refine SX.iter (fun (s5:Int) (g6:Unit)=>[(2,AV.ptr 0 0 0 0),(3,AV.ptr 1 0 0 0),(5,AV.int .i64 y4),(6,AV.int .i64 s5)]) (fun (s5:Int) (g6:Unit)=>[ABlk.row 0 4 [sp.av],ABlk.row 0 4 [m.av]]) (fun (x27:Unit) (g28:Unit)=>[(2,AV.ptr 0 0 0 0),(3,AV.ptr 1 0 0 0)]) (fun (x27:Unit) (g28:Unit)=>[ABlk.row 0 4 [sp.av],ABlk.row 0 4 [m.av]]) (fun r al df h=>Ret Tryz.prog Tryz.f26 (AV.bool r) al df h) () ho29 rfl rfl ?_ ?_ ?_
  ·intro s5 g6 out7 hb
   refine SX.seq (SX.seq ?_)
   refine SX.rn 3 rfl (SOps.light rfl rfl (lightV_len (f:=Field.av) (xs:=sp.fields) rfl rfl Tryz.underlying23 rfl) rdNone (SOps.re rfl ?_))
   refine SX.condM rfl rfl hb (fun ht hb=>?_) (fun ht hb=>?_)
   ·refine SX.sk (SX.seq (SX.block (SX.seq (SX.rn 3 rfl ?_))))
    obtain ⟨y8,hy8,hb⟩:=bindE hb
    refine SOps.light rfl rfl (lightV_idx (f:=Field.av) (xs:=sp.fields) rfl rfl Tryz.underlying23 rfl hy8) rdNone (SOps.re rfl ?_)
    refine SX.seq (SX.seq ?_)
    refine SX.rn 2 rfl ?_
    obtain ⟨y9,hy9,hb⟩:=bindE hb
    refine SOps.call rfl rfl rfl rfl rfl (c79 F sp y8 y9 hy9 _) rdNone (SOps.re rfl ?_)
    refine SX.condM rfl rfl hb (fun ht hb=>?_) (fun ht hb=>?_)
    ·refine SX.seq (SX.rr rfl (SX.rt ?_))
     exact eI _ (aI (ojs hb) (Ret.mk (vs:=[AV.bool false]) rfl (.apart .bool)))
    ·refine SX.sk (SX.seq (SX.rr rfl ?_))
     obtain ⟨o25,ho25,hb⟩:=bindE hb
     refine SX.forget (al':=[(2,AV.ptr 0 0 0 0),(3,AV.ptr 1 0 0 0),(5,AV.int .i64 y4),(6,AV.int .i64 s5),(7,AV.ptr 2 0 0 0),(8,AV.int .i64 0)]) (leA_of rfl) ?_
     refine SX.iter (fun (s10:Int) (g11:Unit)=>[(2,AV.ptr 0 0 0 0),(3,AV.ptr 1 0 0 0),(5,AV.int .i64 y4),(6,AV.int .i64 s5),(7,AV.ptr 2 0 0 0),(8,AV.int .i64 s10)]) (fun (s10:Int) (g11:Unit)=>[ABlk.row 0 4 [sp.av],ABlk.row 0 4 [m.av],ABlk.row 0 3 [y8.av]]) (fun (x23:Unit) (g24:Unit)=>[(2,AV.ptr 0 0 0 0),(3,AV.ptr 1 0 0 0),(5,AV.int .i64 y4),(6,AV.int .i64 s5)]) (fun (x23:Unit) (g24:Unit)=>[ABlk.row 0 4 [sp.av],ABlk.row 0 4 [m.av],ABlk.row 0 3 [y8.av]]) (fun r al df h=>Ret Tryz.prog Tryz.f26 (AV.bool r) al df h) () ho25 rfl rfl ?_ ?_ ?_
     ·intro s10 g11 out12 hb
      refine SX.seq (SX.seq ?_)
      refine SX.rn 3 rfl (SOps.light rfl rfl (lightV_len (f:=(fun l=>AV.vw 2 (l.map Rel.av))) (xs:=m.states) rfl rfl Tryz.underlying35 rfl) rdNone (SOps.re rfl ?_))
      refine SX.condM rfl rfl hb (fun ht hb=>?_) (fun ht hb=>?_)
      ·refine SX.sk (SX.seq (SX.block ?_))
       refine SX.seq (SX.seq ?_)
       refine SX.draw follows_mixed rfl rdNone (PO.rn 3 rfl ?_)
       obtain ⟨y13,hy13,hb⟩:=bindE hb
       refine PO.light rfl rfl (lightV_idx (f:=(fun l=>AV.vw 2 (l.map Rel.av))) (xs:=m.states) rfl rfl Tryz.underlying35 rfl hy13) (PO.rn 1 rfl (PO.light rfl rfl (lightV_len (f:=Rel.av) (xs:=y13) rfl rfl Tryz.underlying78 rfl) (PO.rn 2 rfl (PO.light rfl rfl (lightV_len (f:=Field.av) (xs:=sp.fields) rfl rfl Tryz.underlying23 rfl) (PO.re rfl ?_)))))
       refine SX.condM rfl rfl hb (fun ht hb=>?_) (fun ht hb=>?_)
       ·refine SX.seq (SX.rr rfl (SX.rt ?_))
        exact eI _ (aI (ojs hb) (Ret.mk (vs:=[AV.bool false]) rfl (.apart .bool)))
       ·refine SX.sk (SX.seq (SX.rn 3 rfl ?_))
        obtain ⟨y14,hy14,hb⟩:=bindE hb
        refine SOps.light rfl rfl (lightV_idx (f:=(fun l=>AV.vw 2 (l.map Rel.av))) (xs:=m.states) rfl rfl Tryz.underlying35 rfl hy14) rdNone (SOps.rn 2 rfl ?_)
        obtain ⟨y15,hy15,hb⟩:=bindE hb
        refine SOps.light rfl rfl (lightV_idx (f:=Rel.av) (xs:=y14) rfl rfl Tryz.underlying78 rfl hy15) rdNone (SOps.re rfl (SX.seq ?_))
        obtain ⟨p21,hj,hb⟩:=bindE hb
        refine SX.join ([(2,AV.ptr 0 0 0 0),(3,AV.ptr 1 0 0 0),(5,AV.int .i64 y4),(6,AV.int .i64 s5),(7,AV.ptr 2 0 0 0),(8,AV.int .i64 s10),(119,AV.bool p21)]) ([ABlk.row 0 4 [sp.av],ABlk.row 0 4 [m.av],ABlk.row 0 3 [y8.av],ABlk.row 0 2 [y15.av]]) (SX.draw follows_mixed rfl rdNone ?_) ?_
        ·refine PO.rn 4 rfl (PO.light rfl rfl (lightV_len (f:=(AV.int .i64)) (xs:=y8.sorts) rfl rfl Tryz.underlying28 rfl) (PO.rn 1 rfl ?_))
         refine PO.splitM rfl rfl rfl hj (fun hj=>?_) (fun hj=>?_)
         ·refine PO.re rfl ?_
          obtain rfl:=oj hj
          exact ⟨rfl,CutTo.sr rfl⟩
         ·refine PO.rn 2 rfl ?_
          obtain ⟨y16,hy16,hj⟩:=bindE hj
          refine PO.call rfl rfl rfl rfl rfl (c80 F y4 y15 y16 hy16 _) (PO.rn 2 rfl ?_)
          refine PO.splitM rfl rfl rfl hj (fun hj=>?_) (fun hj=>?_)
          ·refine PO.re rfl ?_
           obtain rfl:=oj hj
           exact ⟨rfl,CutTo.sr rfl⟩
          ·refine PO.rn 5 rfl ?_
           obtain ⟨y17,hy17,hj⟩:=bindE hj
           refine PO.call rfl rfl rfl rfl rfl (c81 F m.scope y8.sorts y15 y17 hy17 _) (PO.rn 2 rfl ?_)
           refine PO.splitM rfl rfl rfl hj (fun hj=>?_) (fun hj=>?_)
           ·refine PO.re rfl ?_
            obtain rfl:=oj hj
            exact ⟨rfl,CutTo.sr rfl⟩
           ·refine PO.rn 3 rfl ?_
            refine PO.splitM rfl rfl rfl hj (fun hj=>?_) (fun hj=>?_)
            ·refine PO.rn 3 rfl ?_
             obtain ⟨y18,hy18,hj⟩:=bindE hj
             refine PO.light rfl rfl (lightV_idx (f:=(fun l=>AV.vw 2 (l.map Rel.av))) (xs:=m.states) rfl rfl Tryz.underlying35 rfl hy18) (PO.rn 2 rfl ?_)
             obtain ⟨y19,hy19,hj⟩:=bindE hj
             refine PO.light rfl rfl (lightV_idx (f:=Rel.av) (xs:=y18) rfl rfl Tryz.underlying78 rfl hy19) (PO.rn 1 rfl ?_)
             obtain ⟨y20,hy20,hj⟩:=bindE hj
             refine PO.call rfl rfl rfl rfl rfl (c38 F y15 y19 y20 hy20 _) (PO.re rfl ?_)
             obtain rfl:=oj hj
             exact ⟨rfl,CutTo.sr rfl⟩
            ·refine PO.re rfl ?_
             obtain rfl:=oj hj
             exact ⟨rfl,CutTo.sr rfl⟩
        refine SX.condM rfl rfl hb (fun ht hb=>?_) (fun ht hb=>?_)
        ·refine SX.seq (SX.rr rfl (SX.rt ?_))
         exact eI _ (aI (ojs hb) (Ret.mk (vs:=[AV.bool false]) rfl (.apart .bool)))
        ·refine SX.sk (SX.rr rfl ?_)
         exact eI _ (eI () (aI (ojs hb) (CutTo.drop [_] (leA_of rfl) (Nat.le_of_ble_eq_true rfl) (aI (Nat.le_of_ble_eq_true rfl) (aI (Nat.le_of_ble_eq_true rfl) (aI trivial (aI trivial (aI (Nat.le_of_ble_eq_true rfl) (aI trivial trivial)))))) (aI (aI (Spec.belowN _ _) trivial) (aI (aI (Model.belowN _ _) trivial) (aI (aI (Field.belowN _ _) trivial) trivial))))))
      ·refine SX.ex ?_
       exact aI rfl (eI _ (eI () (aI (ojs hb) (CutTo.sr rfl))))
     ·intro x23 g24 he
      subst he
      refine SX.rr rfl ?_
      exact eI _ (eI () (aI (ojs hb) (CutTo.drop [_] (leA_of rfl) (Nat.le_of_ble_eq_true rfl) (aI (Nat.le_of_ble_eq_true rfl) (aI (Nat.le_of_ble_eq_true rfl) (aI trivial (aI trivial trivial)))) (aI (aI (Spec.belowN _ _) trivial) (aI (aI (Model.belowN _ _) trivial) trivial)))))
     ·intro r al' df' h' hr hq
      subst hr
      exact eI _ (aI (ojs hb) hq)
   ·refine SX.ex ?_
    exact aI rfl (eI _ (eI () (aI (ojs hb) (CutTo.sr rfl))))
  ·intro x27 g28 he
   subst he
   refine SX.seq (SX.seq ?_)
   refine SX.rr rfl ?_
   obtain ⟨o36,ho36,hm⟩:=bindE hm
   refine SX.forget (al':=[(2,AV.ptr 0 0 0 0),(3,AV.ptr 1 0 0 0),(10,AV.int .i64 0)]) (leA_of rfl) ?_
   refine SX.iter (fun (s30:Int) (g31:Unit)=>[(2,AV.ptr 0 0 0 0),(3,AV.ptr 1 0 0 0),(10,AV.int .i64 s30)]) (fun (s30:Int) (g31:Unit)=>[ABlk.row 0 4 [sp.av],ABlk.row 0 4 [m.av]]) (fun (x34:Unit) (g35:Unit)=>[]) (fun (x34:Unit) (g35:Unit)=>[ABlk.row 0 4 [sp.av],ABlk.row 0 4 [m.av]]) (fun r al df h=>Ret Tryz.prog Tryz.f26 (AV.bool r) al df h) () ho36 rfl rfl ?_ ?_ ?_
   ·intro s30 g31 out32 hb
    refine SX.seq (SX.seq ?_)
    refine SX.rn 3 rfl (SOps.light rfl rfl (lightV_len (f:=(fun l=>AV.vw 2 (l.map Rel.av))) (xs:=m.states) rfl rfl Tryz.underlying35 rfl) rdNone (SOps.re rfl ?_))
    refine SX.condM rfl rfl hb (fun ht hb=>?_) (fun ht hb=>?_)
    ·refine SX.sk (SX.seq (SX.block (SX.seq (SX.draw follows_mixed rfl rdNone (PO.rn 3 rfl ?_)))))
     obtain ⟨y33,hy33,hb⟩:=bindE hb
     refine PO.light rfl rfl (lightV_idx (f:=(fun l=>AV.vw 2 (l.map Rel.av))) (xs:=m.states) rfl rfl Tryz.underlying35 rfl hy33) (PO.rn 1 rfl (PO.light rfl rfl (lightV_len (f:=Rel.av) (xs:=y33) rfl rfl Tryz.underlying78 rfl) (PO.rn 2 rfl (PO.light rfl rfl (lightV_len (f:=Field.av) (xs:=sp.fields) rfl rfl Tryz.underlying23 rfl) (PO.re rfl ?_)))))
     refine SX.condM rfl rfl hb (fun ht hb=>?_) (fun ht hb=>?_)
     ·refine SX.seq (SX.rr rfl (SX.rt ?_))
      exact eI _ (aI (ojs hb) (Ret.mk (vs:=[AV.bool false]) rfl (.apart .bool)))
     ·refine SX.sk (SX.rr rfl ?_)
      exact eI _ (eI () (aI (ojs hb) (CutTo.sr rfl)))
    ·refine SX.ex ?_
     exact aI rfl (eI _ (eI () (aI (ojs hb) (CutTo.sr rfl))))
   ·intro x34 g35 he
    subst he
    refine SX.seq (SX.rr rfl (SX.rt ?_))
    obtain rfl:=oj hm
    exact RetQ.mk (vs:=[AV.bool true]) rfl (.apart .bool)
   ·intro r al' df' h' hr hq
    subst hr
    obtain rfl:=oj hm
    exact hq
  ·intro r al' df' h' hr hq
   subst hr
   obtain rfl:=oj hm
   exact hq
def m12 (F:Nat) (sp:Spec) (m:Model):Option Bool:=
 (bif decide (10 < (sp.sorts.length:Int)) then
 some (true)
 else
 bif decide (10 < (sp.fields.length:Int)) then
 some (true)
 else
 bif decide (64 < (m.states.length:Int)) then
 some (true)
 else
 some (decide (10 < (m.scope.atoms.length:Int)))).bind fun p1=>
 bif p1 then
 some false
 else
 (runs (fun (s3:Int)=>
 (bif decide (s3 < (m.states.length:Int)) then
 (idx m.states s3).bind fun y6=>
 bif decide (10 < (y6.length:Int)) then
 some (Out.ret false)
 else
 (runs (fun (s7:Int)=>
 ((idx m.states s3).bind fun y10=>
 bif decide (s7 < (y10.length:Int)) then
 (idx m.states s3).bind fun y11=>
 (idx y11 s7).bind fun y12=>
 bif decide (200 < (y12.tuples.length:Int)) then
 some (Out.ret false)
 else
 some (Out.next (w64 (s7 + 1)))
 else
 some (Out.exit (())):Option (Out (Int) (Unit) Bool))) F (0)).bind fun (o15:(Unit) ⊕ Bool)=>(match o15 with
 | .inl x13=>
 some (Out.next (w64 (s3 + 1)))
 | .inr r16=>some (Out.ret r16))
 else
 some (Out.exit (())):Option (Out (Int) (Unit) Bool))) F (0)).bind fun (o19:(Unit) ⊕ Bool)=>(match o19 with
 | .inl x17=>
 (runs (fun (s20:Int)=>
 (bif decide (s20 < (sp.fields.length:Int)) then
 (idx sp.fields s20).bind fun y23=>
 bif decide (10 < (y23.sorts.length:Int)) then
 some (Out.ret false)
 else
 some (Out.next (w64 (s20 + 1)))
 else
 some (Out.exit (())):Option (Out (Int) (Unit) Bool))) F (0)).bind fun (o26:(Unit) ⊕ Bool)=>(match o26 with
 | .inl x24=>
 some true
 | .inr r27=>some r27)
 | .inr r28=>some r28)
theorem c12 (F:Nat) (sp:Spec) (m:Model) (res:Bool) (hm:m12 F sp m = some res) (h:List ABlk):ACall Tryz.prog 12 [sp.av,m.av] h (.ret (AV.bool res)) h:=by
 unfold m12 at hm
 refine ACall.mir 0 Tryz.func12 rfl (.cons (Spec.apart _) (.cons (Model.apart _) .nil)) (nlst rfl) ?_ h
 show SX _ _ _ 81 _ _ _ _
 refine SX.seq (SX.rr rfl ?_)
 refine SX.seq (SX.seq ?_)
 obtain ⟨p1,hj,hm⟩:=bindE hm
 refine SX.join ([(2,AV.ptr 0 0 0 0),(3,AV.ptr 1 0 0 0),(30,AV.bool p1)]) ([ABlk.row 0 4 [sp.av],ABlk.row 0 4 [m.av]]) (SX.region ?_) ?_
 ·refine SOps.rn 2 rfl (SOps.light rfl rfl (lightV_len (f:=Sort'.av) (xs:=sp.sorts) rfl rfl Tryz.underlying22 rfl) rdNone (SOps.rn 1 rfl ?_))
  refine SOps.splitM rfl rfl rfl rdNone hj (fun hj=>?_) (fun hj=>?_)
  ·refine SOps.re rfl ?_
   obtain rfl:=oj hj
   exact ⟨rfl,CutTo.sr rfl⟩
  ·refine SOps.rn 2 rfl (SOps.light rfl rfl (lightV_len (f:=Field.av) (xs:=sp.fields) rfl rfl Tryz.underlying23 rfl) rdNone (SOps.rn 2 rfl ?_))
   refine SOps.splitM rfl rfl rfl rdNone hj (fun hj=>?_) (fun hj=>?_)
   ·refine SOps.re rfl ?_
    obtain rfl:=oj hj
    exact ⟨rfl,CutTo.sr rfl⟩
   ·refine SOps.rn 2 rfl (SOps.light rfl rfl (lightV_len (f:=(fun l=>AV.vw 2 (l.map Rel.av))) (xs:=m.states) rfl rfl Tryz.underlying35 rfl) rdNone (SOps.rn 2 rfl ?_))
    refine SOps.splitM rfl rfl rfl rdNone hj (fun hj=>?_) (fun hj=>?_)
    ·refine SOps.re rfl ?_
     obtain rfl:=oj hj
     exact ⟨rfl,CutTo.sr rfl⟩
    ·refine SOps.rn 3 rfl (SOps.light rfl rfl (lightV_len (f:=(AV.int .i64)) (xs:=m.scope.atoms) rfl rfl Tryz.underlying28 rfl) rdNone (SOps.re rfl ?_))
     obtain rfl:=oj hj
     exact ⟨rfl,CutTo.sr rfl⟩
 refine SX.condM rfl rfl hm (fun ht hm=>?_) (fun ht hm=>?_)
 ·refine SX.seq (SX.rr rfl (SX.rt ?_))
  obtain rfl:=oj hm
  exact RetQ.mk (vs:=[AV.bool false]) rfl (.apart .bool)
 ·refine SX.sk ?_
  refine SX.seq (SX.seq ?_)
  refine SX.rr rfl ?_
  obtain ⟨o19,ho19,hm⟩:=bindE hm
  refine SX.forget (al':=[(2,AV.ptr 0 0 0 0),(3,AV.ptr 1 0 0 0),(5,AV.int .i64 0)]) (leA_of rfl) ?_
  refine SX.iter (fun (s3:Int) (g4:Unit)=>[(2,AV.ptr 0 0 0 0),(3,AV.ptr 1 0 0 0),(5,AV.int .i64 s3)]) (fun (s3:Int) (g4:Unit)=>[ABlk.row 0 4 [sp.av],ABlk.row 0 4 [m.av]]) (fun (x17:Unit) (g18:Unit)=>[(2,AV.ptr 0 0 0 0)]) (fun (x17:Unit) (g18:Unit)=>[ABlk.row 0 4 [sp.av],ABlk.row 0 4 [m.av]]) (fun r al df h=>Ret Tryz.prog Tryz.f12 (AV.bool r) al df h) () ho19 rfl rfl ?_ ?_ ?_
  ·intro s3 g4 out5 hb
   refine SX.seq (SX.seq ?_)
   refine SX.rn 3 rfl (SOps.light rfl rfl (lightV_len (f:=(fun l=>AV.vw 2 (l.map Rel.av))) (xs:=m.states) rfl rfl Tryz.underlying35 rfl) rdNone (SOps.re rfl ?_))
   refine SX.condM rfl rfl hb (fun ht hb=>?_) (fun ht hb=>?_)
   ·refine SX.sk (SX.seq (SX.block ?_))
    refine SX.seq (SX.seq ?_)
    refine SX.rn 3 rfl ?_
    obtain ⟨y6,hy6,hb⟩:=bindE hb
    refine SOps.light rfl rfl (lightV_idx (f:=(fun l=>AV.vw 2 (l.map Rel.av))) (xs:=m.states) rfl rfl Tryz.underlying35 rfl hy6) rdNone (SOps.rn 1 rfl (SOps.light rfl rfl (lightV_len (f:=Rel.av) (xs:=y6) rfl rfl Tryz.underlying78 rfl) rdNone (SOps.re rfl ?_)))
    refine SX.condM rfl rfl hb (fun ht hb=>?_) (fun ht hb=>?_)
    ·refine SX.seq (SX.rr rfl (SX.rt ?_))
     exact eI _ (aI (ojs hb) (Ret.mk (vs:=[AV.bool false]) rfl (.apart .bool)))
    ·refine SX.sk (SX.seq (SX.rr rfl ?_))
     obtain ⟨o15,ho15,hb⟩:=bindE hb
     refine SX.forget (al':=[(2,AV.ptr 0 0 0 0),(3,AV.ptr 1 0 0 0),(5,AV.int .i64 s3),(6,AV.int .i64 0)]) (leA_of rfl) ?_
     refine SX.iter (fun (s7:Int) (g8:Unit)=>[(2,AV.ptr 0 0 0 0),(3,AV.ptr 1 0 0 0),(5,AV.int .i64 s3),(6,AV.int .i64 s7)]) (fun (s7:Int) (g8:Unit)=>[ABlk.row 0 4 [sp.av],ABlk.row 0 4 [m.av]]) (fun (x13:Unit) (g14:Unit)=>[(2,AV.ptr 0 0 0 0),(3,AV.ptr 1 0 0 0),(5,AV.int .i64 s3)]) (fun (x13:Unit) (g14:Unit)=>[ABlk.row 0 4 [sp.av],ABlk.row 0 4 [m.av]]) (fun r al df h=>Ret Tryz.prog Tryz.f12 (AV.bool r) al df h) () ho15 rfl rfl ?_ ?_ ?_
     ·intro s7 g8 out9 hb
      refine SX.seq (SX.seq ?_)
      refine SX.rn 4 rfl ?_
      obtain ⟨y10,hy10,hb⟩:=bindE hb
      refine SOps.light rfl rfl (lightV_idx (f:=(fun l=>AV.vw 2 (l.map Rel.av))) (xs:=m.states) rfl rfl Tryz.underlying35 rfl hy10) rdNone (SOps.rn 1 rfl (SOps.light rfl rfl (lightV_len (f:=Rel.av) (xs:=y10) rfl rfl Tryz.underlying78 rfl) rdNone (SOps.re rfl ?_)))
      refine SX.condM rfl rfl hb (fun ht hb=>?_) (fun ht hb=>?_)
      ·refine SX.sk (SX.seq (SX.block (SX.seq (SX.rn 3 rfl ?_))))
       obtain ⟨y11,hy11,hb⟩:=bindE hb
       refine SOps.light rfl rfl (lightV_idx (f:=(fun l=>AV.vw 2 (l.map Rel.av))) (xs:=m.states) rfl rfl Tryz.underlying35 rfl hy11) rdNone (SOps.rn 2 rfl ?_)
       obtain ⟨y12,hy12,hb⟩:=bindE hb
       refine SOps.light rfl rfl (lightV_idx (f:=Rel.av) (xs:=y11) rfl rfl Tryz.underlying78 rfl hy12) rdNone (SOps.rn 2 rfl (SOps.light rfl rfl (lightV_len (f:=(AV.int .i64)) (xs:=y12.tuples) rfl rfl Tryz.underlying28 rfl) rdNone (SOps.re rfl ?_)))
       refine SX.condM rfl rfl hb (fun ht hb=>?_) (fun ht hb=>?_)
       ·refine SX.seq (SX.rr rfl (SX.rt ?_))
        exact eI _ (aI (ojs hb) (Ret.mk (vs:=[AV.bool false]) rfl (.apart .bool)))
       ·refine SX.sk (SX.rr rfl ?_)
        exact eI _ (eI () (aI (ojs hb) (CutTo.sr rfl)))
      ·refine SX.ex ?_
       exact aI rfl (eI _ (eI () (aI (ojs hb) (CutTo.sr rfl))))
     ·intro x13 g14 he
      subst he
      refine SX.rr rfl ?_
      exact eI _ (eI () (aI (ojs hb) (CutTo.sr rfl)))
     ·intro r al' df' h' hr hq
      subst hr
      exact eI _ (aI (ojs hb) hq)
   ·refine SX.ex ?_
    exact aI rfl (eI _ (eI () (aI (ojs hb) (CutTo.sr rfl))))
  ·intro x17 g18 he
   subst he
   refine SX.seq (SX.seq ?_)
   refine SX.rr rfl ?_
   obtain ⟨o26,ho26,hm⟩:=bindE hm
   refine SX.forget (al':=[(2,AV.ptr 0 0 0 0),(7,AV.int .i64 0)]) (leA_of rfl) ?_
   refine SX.iter (fun (s20:Int) (g21:Unit)=>[(2,AV.ptr 0 0 0 0),(7,AV.int .i64 s20)]) (fun (s20:Int) (g21:Unit)=>[ABlk.row 0 4 [sp.av],ABlk.row 0 4 [m.av]]) (fun (x24:Unit) (g25:Unit)=>[]) (fun (x24:Unit) (g25:Unit)=>[ABlk.row 0 4 [sp.av],ABlk.row 0 4 [m.av]]) (fun r al df h=>Ret Tryz.prog Tryz.f12 (AV.bool r) al df h) () ho26 rfl rfl ?_ ?_ ?_
   ·intro s20 g21 out22 hb
    refine SX.seq (SX.seq ?_)
    refine SX.rn 3 rfl (SOps.light rfl rfl (lightV_len (f:=Field.av) (xs:=sp.fields) rfl rfl Tryz.underlying23 rfl) rdNone (SOps.re rfl ?_))
    refine SX.condM rfl rfl hb (fun ht hb=>?_) (fun ht hb=>?_)
    ·refine SX.sk (SX.seq (SX.block (SX.seq (SX.rn 3 rfl ?_))))
     obtain ⟨y23,hy23,hb⟩:=bindE hb
     refine SOps.light rfl rfl (lightV_idx (f:=Field.av) (xs:=sp.fields) rfl rfl Tryz.underlying23 rfl hy23) rdNone (SOps.rn 2 rfl (SOps.light rfl rfl (lightV_len (f:=(AV.int .i64)) (xs:=y23.sorts) rfl rfl Tryz.underlying28 rfl) rdNone (SOps.re rfl ?_)))
     refine SX.condM rfl rfl hb (fun ht hb=>?_) (fun ht hb=>?_)
     ·refine SX.seq (SX.rr rfl (SX.rt ?_))
      exact eI _ (aI (ojs hb) (Ret.mk (vs:=[AV.bool false]) rfl (.apart .bool)))
     ·refine SX.sk (SX.rr rfl ?_)
      exact eI _ (eI () (aI (ojs hb) (CutTo.sr rfl)))
    ·refine SX.ex ?_
     exact aI rfl (eI _ (eI () (aI (ojs hb) (CutTo.sr rfl))))
   ·intro x24 g25 he
    subst he
    refine SX.seq (SX.rr rfl (SX.rt ?_))
    obtain rfl:=oj hm
    exact RetQ.mk (vs:=[AV.bool true]) rfl (.apart .bool)
   ·intro r al' df' h' hr hq
    subst hr
    obtain rfl:=oj hm
    exact hq
  ·intro r al' df' h' hr hq
   subst hr
   obtain rfl:=oj hm
   exact hq
def m82 (F:Nat) (b:Bound) (r:Rel):Option Bool:=
 (bif (b.lower.arity == r.arity) then
 bif (b.upper.arity == r.arity) then
 (m101 F b.lower r).bind fun y1=>
 bif y1 then
 (m101 F r b.upper).bind fun y2=>
 some (y2)
 else
 some (false)
 else
 some (false)
 else
 some (false)).bind fun p3=>
 some p3
theorem c82 (F:Nat) (b:Bound) (r:Rel) (res:Bool) (hm:m82 F b r = some res) (h:List ABlk):ACall Tryz.prog 82 [b.av,r.av] h (.ret (AV.bool res)) h:=by
 unfold m82 at hm
 refine ACall.mir 0 Tryz.func82 rfl (.cons (Bound.apart _) (.cons (Rel.apart _) .nil)) (nlst rfl) ?_ h
 show SX _ _ _ 31 _ _ _ _
 refine SX.seq (SX.rr rfl (SX.seq ?_))
 obtain ⟨p3,hj,hm⟩:=bindE hm
 refine SX.join ([(4,AV.bool p3)]) ([ABlk.row 0 4 [b.av],ABlk.row 0 2 [r.av]]) (SX.region ?_) ?_
 ·refine SOps.rn 6 rfl ?_
  refine SOps.splitM rfl rfl rfl rdNone hj (fun hj=>?_) (fun hj=>?_)
  ·refine SOps.rn 7 rfl ?_
   refine SOps.splitM rfl rfl rfl rdNone hj (fun hj=>?_) (fun hj=>?_)
   ·refine SOps.rn 3 rfl ?_
    obtain ⟨y1,hy1,hj⟩:=bindE hj
    refine SOps.call rfl rfl rfl rfl rfl (c101 F b.lower r y1 hy1 _) rdNone (SOps.rn 1 rfl ?_)
    refine SOps.splitM rfl rfl rfl rdNone hj (fun hj=>?_) (fun hj=>?_)
    ·refine SOps.rn 3 rfl ?_
     obtain ⟨y2,hy2,hj⟩:=bindE hj
     refine SOps.call rfl rfl rfl rfl rfl (c101 F r b.upper y2 hy2 _) rdNone (SOps.re rfl ?_)
     obtain rfl:=oj hj
     exact ⟨rfl,CutTo.sr rfl⟩
    ·refine SOps.re rfl ?_
     obtain rfl:=oj hj
     exact ⟨rfl,CutTo.sr rfl⟩
   ·refine SOps.re rfl ?_
    obtain rfl:=oj hj
    exact ⟨rfl,CutTo.sr rfl⟩
  ·refine SOps.re rfl ?_
   obtain rfl:=oj hj
   exact ⟨rfl,CutTo.sr rfl⟩
 refine SX.rt ?_
 obtain rfl:=oj hm
 exact RetQ.mk (vs:=[AV.bool p3]) rfl (.apart .bool)
def m27 (F:Nat) (b:List Bound) (m:Model):Option Bool:=
 (runs (fun (s1:Int)=>
 (bif decide (s1 < (m.states.length:Int)) then
 (idx m.states s1).bind fun y4=>
 bif ((y4.length:Int) != (b.length:Int)) then
 some (Out.ret false)
 else
 (runs (fun (s5:Int)=>
 (bif decide (s5 < (b.length:Int)) then
 (idx b s5).bind fun y8=>
 (idx m.states s1).bind fun y9=>
 (idx y9 s5).bind fun y10=>
 (m82 F y8 y10).bind fun y11=>
 bif (!y11) then
 some (Out.ret false)
 else
 some (Out.next (w64 (s5 + 1)))
 else
 some (Out.exit (())):Option (Out (Int) (Unit) Bool))) F (0)).bind fun (o14:(Unit) ⊕ Bool)=>(match o14 with
 | .inl x12=>
 some (Out.next (w64 (s1 + 1)))
 | .inr r15=>some (Out.ret r15))
 else
 some (Out.exit (())):Option (Out (Int) (Unit) Bool))) F (0)).bind fun (o18:(Unit) ⊕ Bool)=>(match o18 with
 | .inl x16=>
 some true
 | .inr r19=>some r19)
theorem c27 (F:Nat) (b:List Bound) (m:Model) (res:Bool) (hm:m27 F b m = some res) (h:List ABlk):ACall Tryz.prog 27 [AV.vw 4 (b.map Bound.av),m.av] h (.ret (AV.bool res)) h:=by
 unfold m27 at hm
 refine ACall.mir 0 Tryz.func27 rfl (.cons (.vw (ApartL.map fun _ _=>(Bound.apart _))) (.cons (Model.apart _) .nil)) (nlst rfl) ?_ h
 show SX _ _ _ 43 _ _ _ _
 refine SX.seq (SX.rr rfl ?_)
 refine SX.seq (SX.seq ?_)
 refine SX.rr rfl ?_
 obtain ⟨o18,ho18,hm⟩:=bindE hm
 refine SX.forget (al':=[(0,AV.vw 4 (b.map Bound.av)),(3,AV.ptr 0 0 0 0),(5,AV.int .i64 0)]) (leA_of rfl) ?_
 refine SX.iter (fun (s1:Int) (g2:Unit)=>[(0,AV.vw 4 (b.map Bound.av)),(3,AV.ptr 0 0 0 0),(5,AV.int .i64 s1)]) (fun (s1:Int) (g2:Unit)=>[ABlk.row 0 4 [m.av]]) (fun (x16:Unit) (g17:Unit)=>[]) (fun (x16:Unit) (g17:Unit)=>[ABlk.row 0 4 [m.av]]) (fun r al df h=>Ret Tryz.prog Tryz.f27 (AV.bool r) al df h) () ho18 rfl rfl ?_ ?_ ?_
 ·intro s1 g2 out3 hb
  refine SX.seq (SX.seq ?_)
  refine SX.rn 3 rfl (SOps.light rfl rfl (lightV_len (f:=(fun l=>AV.vw 2 (l.map Rel.av))) (xs:=m.states) rfl rfl Tryz.underlying35 rfl) rdNone (SOps.re rfl ?_))
  refine SX.condM rfl rfl hb (fun ht hb=>?_) (fun ht hb=>?_)
  ·refine SX.sk (SX.seq (SX.block ?_))
   refine SX.seq (SX.seq ?_)
   refine SX.rn 3 rfl ?_
   obtain ⟨y4,hy4,hb⟩:=bindE hb
   refine SOps.light rfl rfl (lightV_idx (f:=(fun l=>AV.vw 2 (l.map Rel.av))) (xs:=m.states) rfl rfl Tryz.underlying35 rfl hy4) rdNone (SOps.rn 1 rfl (SOps.light rfl rfl (lightV_len (f:=Rel.av) (xs:=y4) rfl rfl Tryz.underlying78 rfl) rdNone (SOps.rn 1 rfl (SOps.light rfl rfl (lightV_len (f:=Bound.av) (xs:=b) rfl rfl Tryz.underlying31 rfl) rdNone (SOps.re rfl ?_)))))
   refine SX.condM rfl rfl hb (fun ht hb=>?_) (fun ht hb=>?_)
   ·refine SX.seq (SX.rr rfl (SX.rt ?_))
    exact eI _ (aI (ojs hb) (Ret.mk (vs:=[AV.bool false]) rfl (.apart .bool)))
   ·refine SX.sk (SX.seq (SX.rr rfl ?_))
    obtain ⟨o14,ho14,hb⟩:=bindE hb
    refine SX.forget (al':=[(0,AV.vw 4 (b.map Bound.av)),(3,AV.ptr 0 0 0 0),(5,AV.int .i64 s1),(6,AV.int .i64 0)]) (leA_of rfl) ?_
    refine SX.iter (fun (s5:Int) (g6:Unit)=>[(0,AV.vw 4 (b.map Bound.av)),(3,AV.ptr 0 0 0 0),(5,AV.int .i64 s1),(6,AV.int .i64 s5)]) (fun (s5:Int) (g6:Unit)=>[ABlk.row 0 4 [m.av]]) (fun (x12:Unit) (g13:Unit)=>[(0,AV.vw 4 (b.map Bound.av)),(3,AV.ptr 0 0 0 0),(5,AV.int .i64 s1)]) (fun (x12:Unit) (g13:Unit)=>[ABlk.row 0 4 [m.av]]) (fun r al df h=>Ret Tryz.prog Tryz.f27 (AV.bool r) al df h) () ho14 rfl rfl ?_ ?_ ?_
    ·intro s5 g6 out7 hb
     refine SX.seq (SX.seq ?_)
     refine SX.rn 2 rfl (SOps.light rfl rfl (lightV_len (f:=Bound.av) (xs:=b) rfl rfl Tryz.underlying31 rfl) rdNone (SOps.re rfl ?_))
     refine SX.condM rfl rfl hb (fun ht hb=>?_) (fun ht hb=>?_)
     ·refine SX.sk (SX.seq (SX.block (SX.seq (SX.draw follows_mixed rfl rdNone (PO.rn 2 rfl ?_)))))
      obtain ⟨y8,hy8,hb⟩:=bindE hb
      refine PO.light rfl rfl (lightV_idx (f:=Bound.av) (xs:=b) rfl rfl Tryz.underlying31 rfl hy8) (PO.rn 4 rfl ?_)
      obtain ⟨y9,hy9,hb⟩:=bindE hb
      refine PO.light rfl rfl (lightV_idx (f:=(fun l=>AV.vw 2 (l.map Rel.av))) (xs:=m.states) rfl rfl Tryz.underlying35 rfl hy9) (PO.rn 2 rfl ?_)
      obtain ⟨y10,hy10,hb⟩:=bindE hb
      refine PO.light rfl rfl (lightV_idx (f:=Rel.av) (xs:=y9) rfl rfl Tryz.underlying78 rfl hy10) (PO.rn 1 rfl ?_)
      obtain ⟨y11,hy11,hb⟩:=bindE hb
      refine PO.call rfl rfl rfl rfl rfl (c82 F y8 y10 y11 hy11 _) (PO.re rfl ?_)
      refine SX.condM rfl rfl hb (fun ht hb=>?_) (fun ht hb=>?_)
      ·refine SX.seq (SX.rr rfl (SX.rt ?_))
       exact eI _ (aI (ojs hb) (Ret.mk (vs:=[AV.bool false]) rfl (.apart .bool)))
      ·refine SX.sk (SX.rr rfl ?_)
       exact eI _ (eI () (aI (ojs hb) (CutTo.sr rfl)))
     ·refine SX.ex ?_
      exact aI rfl (eI _ (eI () (aI (ojs hb) (CutTo.sr rfl))))
    ·intro x12 g13 he
     subst he
     refine SX.rr rfl ?_
     exact eI _ (eI () (aI (ojs hb) (CutTo.sr rfl)))
    ·intro r al' df' h' hr hq
     subst hr
     exact eI _ (aI (ojs hb) hq)
  ·refine SX.ex ?_
   exact aI rfl (eI _ (eI () (aI (ojs hb) (CutTo.sr rfl))))
 ·intro x16 g17 he
  subst he
  refine SX.seq (SX.rr rfl (SX.rt ?_))
  obtain rfl:=oj hm
  exact RetQ.mk (vs:=[AV.bool true]) rfl (.apart .bool)
 ·intro r al' df' h' hr hq
  subst hr
  obtain rfl:=oj hm
  exact hq
def m103 (F:Nat) (l:List Int) (x:Int):Option Bool:=
 (runs (fun (s1:Int)=>
 (bif decide (s1 < (l.length:Int)) then
 (idx l s1).bind fun y4=>
 bif (y4 == x) then
 some (Out.ret true)
 else
 some (Out.next (w64 (s1 + 1)))
 else
 some (Out.exit (())):Option (Out (Int) (Unit) Bool))) F (0)).bind fun (o7:(Unit) ⊕ Bool)=>(match o7 with
 | .inl x5=>
 some false
 | .inr r8=>some r8)
theorem c103 (F:Nat) (l:List Int) (x:Int) (res:Bool) (hm:m103 F l x = some res) (h:List ABlk):ACall Tryz.prog 103 [AV.vw 1 (l.map (AV.int .i64)),AV.int .i64 x] h (.ret (AV.bool res)) h:=by
 unfold m103 at hm
 refine ACall.mir 0 Tryz.func103 rfl (.cons (.vw (ApartL.map fun _ _=>.int)) (.cons .int .nil)) (nlst rfl) ?_ h
 show SX _ _ _ 18 _ _ _ _
 refine SX.seq (SX.rr rfl ?_)
 refine SX.seq (SX.seq ?_)
 refine SX.rr rfl ?_
 obtain ⟨o7,ho7,hm⟩:=bindE hm
 refine SX.forget (al':=[(0,AV.vw 1 (l.map (AV.int .i64))),(1,AV.int .i64 x),(5,AV.int .i64 0)]) (leA_of rfl) ?_
 refine SX.iter (fun (s1:Int) (g2:Unit)=>[(0,AV.vw 1 (l.map (AV.int .i64))),(1,AV.int .i64 x),(5,AV.int .i64 s1)]) (fun (s1:Int) (g2:Unit)=>[]) (fun (x5:Unit) (g6:Unit)=>[]) (fun (x5:Unit) (g6:Unit)=>[]) (fun r al df h=>Ret Tryz.prog Tryz.f103 (AV.bool r) al df h) () ho7 rfl rfl ?_ ?_ ?_
 ·intro s1 g2 out3 hb
  refine SX.seq (SX.seq ?_)
  refine SX.rn 2 rfl (SOps.light rfl rfl (lightV_len (f:=(AV.int .i64)) (xs:=l) rfl rfl Tryz.underlying28 rfl) rdNone (SOps.re rfl ?_))
  refine SX.condM rfl rfl hb (fun ht hb=>?_) (fun ht hb=>?_)
  ·refine SX.sk (SX.seq (SX.block (SX.seq (SX.rn 2 rfl ?_))))
   obtain ⟨y4,hy4,hb⟩:=bindE hb
   refine SOps.light rfl rfl (lightV_idx (f:=(AV.int .i64)) (xs:=l) rfl rfl Tryz.underlying28 rfl hy4) rdNone (SOps.re rfl ?_)
   refine SX.condM rfl rfl hb (fun ht hb=>?_) (fun ht hb=>?_)
   ·refine SX.seq (SX.rr rfl (SX.rt ?_))
    exact eI _ (aI (ojs hb) (Ret.mk (vs:=[AV.bool true]) rfl (.apart .bool)))
   ·refine SX.sk (SX.rr rfl ?_)
    exact eI _ (eI () (aI (ojs hb) (CutTo.sr rfl)))
  ·refine SX.ex ?_
   exact aI rfl (eI _ (eI () (aI (ojs hb) (CutTo.sr rfl))))
 ·intro x5 g6 he
  subst he
  refine SX.seq (SX.rr rfl (SX.rt ?_))
  obtain rfl:=oj hm
  exact RetQ.mk (vs:=[AV.bool false]) rfl (.apart .bool)
 ·intro r al' df' h' hr hq
  subst hr
  obtain rfl:=oj hm
  exact hq
def m53 (F:Nat) (b:List Bound):Option (List Pair):=
 (runs (fun (s1:Int×List Pair)=>
 (bif decide (s1.1 < (b.length:Int)) then
 (runs (fun (s4:Int×List Pair)=>
 ((idx b s1.1).bind fun y7=>
 bif decide (s4.1 < (y7.upper.tuples.length:Int)) then
 (idx b s1.1).bind fun y8=>
 (idx b s1.1).bind fun y9=>
 (idx y9.upper.tuples s4.1).bind fun y10=>
 (m103 F y8.lower.tuples y10).bind fun y11=>
 bif (!y11) then
 (idx b s1.1).bind fun y12=>
 (idx y12.upper.tuples s4.1).bind fun y13=>
 (app s4.2 ([(Pair.mk s1.1 y13)])).bind fun y14=>
 some (Out.next (w64 (s4.1 + 1),y14))
 else
 some (Out.next (w64 (s4.1 + 1),s4.2))
 else
 some (Out.exit (s4.2)):Option (Out (Int×List Pair) (List Pair) (List Pair)))) F (0,s1.2)).bind fun (o18:(List Pair) ⊕ (List Pair))=>(match o18 with
 | .inl x16=>
 some (Out.next (w64 (s1.1 + 1),x16))
 | .inr r19=>some (Out.ret r19))
 else
 some (Out.exit (s1.2)):Option (Out (Int×List Pair) (List Pair) (List Pair)))) F (0,[])).bind fun (o22:(List Pair) ⊕ (List Pair))=>(match o22 with
 | .inl x20=>
 some x20
 | .inr r23=>some r23)
theorem c53 (F:Nat) (b:List Bound) (res:(List Pair)) (hm:m53 F b = some res) (h:List ABlk):ACall Tryz.prog 53 [AV.vw 4 (b.map Bound.av)] h (.ret (AV.vw 2 (res.map Pair.av))) h:=by
 unfold m53 at hm
 refine ACall.mir 1 Tryz.func53 rfl (.cons (.vw (ApartL.map fun _ _=>(Bound.apart _))) .nil) (nlst rfl) ?_ h
 show SX _ _ _ 55 _ _ _ _
 refine SX.seq (SX.rr rfl (SX.seq (SX.rr rfl ?_)))
 refine SX.seq (SX.seq ?_)
 refine SX.rr rfl ?_
 obtain ⟨o22,ho22,hm⟩:=bindE hm
 refine SX.forget (al':=[(0,AV.vw 4 (b.map Bound.av)),(3,osl 0 0 (([]).map Pair.av)),(4,AV.int .i64 0)]) (leA_of rfl) ?_
 refine SX.iter (fun (s1:Int×List Pair) (g2:Nat)=>[(0,AV.vw 4 (b.map Bound.av)),(3,osl 0 g2 (s1.2.map Pair.av)),(4,AV.int .i64 s1.1)]) (fun (s1:Int×List Pair) (g2:Nat)=>[oblk 2 g2 (s1.2.map Pair.av)]) (fun (x20:List Pair) (g21:Nat)=>[(3,osl 0 g21 (x20.map Pair.av))]) (fun (x20:List Pair) (g21:Nat)=>[oblk 2 g21 (x20.map Pair.av)]) (fun r al df h=>Ret Tryz.prog Tryz.f53 (AV.vw 2 (r.map Pair.av)) al df h) (0) ho22 rfl rfl ?_ ?_ ?_
 ·intro s1 g2 out3 hb
  refine SX.seq (SX.seq ?_)
  refine SX.rn 2 rfl (SOps.light rfl rfl (lightV_len (f:=Bound.av) (xs:=b) rfl rfl Tryz.underlying31 rfl) rdNone (SOps.re rfl ?_))
  refine SX.condM rfl rfl hb (fun ht hb=>?_) (fun ht hb=>?_)
  ·refine SX.sk (SX.seq (SX.block (SX.seq (SX.rr rfl ?_))))
   obtain ⟨o18,ho18,hb⟩:=bindE hb
   refine SX.forget (al':=[(0,AV.vw 4 (b.map Bound.av)),(3,osl 0 g2 (s1.2.map Pair.av)),(4,AV.int .i64 s1.1),(5,AV.int .i64 0)]) (leA_of rfl) ?_
   refine SX.iter (fun (s4:Int×List Pair) (g5:Nat)=>[(0,AV.vw 4 (b.map Bound.av)),(3,osl 0 g5 (s4.2.map Pair.av)),(4,AV.int .i64 s1.1),(5,AV.int .i64 s4.1)]) (fun (s4:Int×List Pair) (g5:Nat)=>[oblk 2 g5 (s4.2.map Pair.av)]) (fun (x16:List Pair) (g17:Nat)=>[(0,AV.vw 4 (b.map Bound.av)),(3,osl 0 g17 (x16.map Pair.av)),(4,AV.int .i64 s1.1)]) (fun (x16:List Pair) (g17:Nat)=>[oblk 2 g17 (x16.map Pair.av)]) (fun r al df h=>Ret Tryz.prog Tryz.f53 (AV.vw 2 (r.map Pair.av)) al df h) (g2) ho18 rfl rfl ?_ ?_ ?_
   ·intro s4 g5 out6 hb
    refine SX.seq (SX.seq ?_)
    refine SX.rn 3 rfl ?_
    obtain ⟨y7,hy7,hb⟩:=bindE hb
    refine SOps.light rfl rfl (lightV_idx (f:=Bound.av) (xs:=b) rfl rfl Tryz.underlying31 rfl hy7) rdNone (SOps.rn 3 rfl (SOps.light rfl rfl (lightV_len (f:=(AV.int .i64)) (xs:=y7.upper.tuples) rfl rfl Tryz.underlying28 rfl) rdNone (SOps.re rfl ?_)))
    refine SX.condM rfl rfl hb (fun ht hb=>?_) (fun ht hb=>?_)
    ·refine SX.sk (SX.seq (SX.block (SX.seq (SX.draw follows_mixed rfl rdNone (PO.rn 2 rfl ?_)))))
     obtain ⟨y8,hy8,hb⟩:=bindE hb
     refine PO.light rfl rfl (lightV_idx (f:=Bound.av) (xs:=b) rfl rfl Tryz.underlying31 rfl hy8) (PO.rn 5 rfl ?_)
     obtain ⟨y9,hy9,hb⟩:=bindE hb
     refine PO.light rfl rfl (lightV_idx (f:=Bound.av) (xs:=b) rfl rfl Tryz.underlying31 rfl hy9) (PO.rn 4 rfl ?_)
     obtain ⟨y10,hy10,hb⟩:=bindE hb
     refine PO.light rfl rfl (lightV_idx (f:=(AV.int .i64)) (xs:=y9.upper.tuples) rfl rfl Tryz.underlying28 rfl hy10) (PO.rn 1 rfl ?_)
     obtain ⟨y11,hy11,hb⟩:=bindE hb
     refine PO.call rfl rfl rfl rfl rfl (c103 F y8.lower.tuples y10 y11 hy11 _) (PO.re rfl ?_)
     refine SX.condM rfl rfl hb (fun ht hb=>?_) (fun ht hb=>?_)
     ·refine SX.rn 4 rfl ?_
      obtain ⟨y12,hy12,hb⟩:=bindE hb
      refine SOps.light rfl rfl (lightV_idx (f:=Bound.av) (xs:=b) rfl rfl Tryz.underlying31 rfl hy12) rdNone (SOps.rn 4 rfl ?_)
      obtain ⟨y13,hy13,hb⟩:=bindE hb
      refine SOps.light rfl rfl (lightV_idx (f:=(AV.int .i64)) (xs:=y12.upper.tuples) rfl rfl Tryz.underlying28 rfl hy13) rdNone (SOps.rn 3 rfl ?_)
      obtain ⟨y14,hy14,hb⟩:=bindE hb
      refine SOps.growM (f:=Pair.av) (xs:=s4.2) (ys:=[(Pair.mk s1.1 y13)]) (b:=0) (g:=g5) rfl rfl rfl rfl rfl rfl rfl rfl rfl (fun _=>rfl) rfl hy14 fun g15=>(SOps.re rfl (SX.rr rfl ?_))
      exact eI _ (eI (g15) (aI (ojs hb) (CutTo.sr rfl)))
     ·refine SX.sk (SX.rr rfl ?_)
      exact eI _ (eI (g5) (aI (ojs hb) (CutTo.sr rfl)))
    ·refine SX.ex ?_
     exact aI rfl (eI _ (eI (g5) (aI (ojs hb) (CutTo.sr rfl))))
   ·intro x16 g17 he
    subst he
    refine SX.rr rfl ?_
    exact eI _ (eI (g17) (aI (ojs hb) (CutTo.sr rfl)))
   ·intro r al' df' h' hr hq
    subst hr
    exact eI _ (aI (ojs hb) hq)
  ·refine SX.ex ?_
   exact aI rfl (eI _ (eI (g2) (aI (ojs hb) (CutTo.sr rfl))))
 ·intro x20 g21 he
  subst he
  refine SX.seq (SX.rr rfl (SX.rt ?_))
  obtain rfl:=oj hm
  exact RetQ.mk (vs:=[osl 0 g21 (x20.map Pair.av)]) rfl (frozen_osl rfl (ApartL.map fun _ _=>(Pair.apart _)))
 ·intro r al' df' h' hr hq
  subst hr
  obtain rfl:=oj hm
  exact hq
def m30 (F:Nat) (a:List Bool) (b:List Bool):Option Int:=
 (runs (fun (s1:Int)=>
 ((bif decide (s1 < (a.length:Int)) then
 some (decide (s1 < (b.length:Int)))
 else
 some (false)).bind fun p4=>
 bif p4 then
 (idx a s1).bind fun y6=>
 (idx b s1).bind fun y7=>
 bif (!(y6 == y7)) then
 (idx b s1).bind fun y8=>
 bif y8 then
 some (Out.ret ((-1)))
 else
 some (Out.ret 1)
 else
 some (Out.next (w64 (s1 + 1)))
 else
 some (Out.exit (())):Option (Out (Int) (Unit) Int))) F (0)).bind fun (o11:(Unit) ⊕ Int)=>(match o11 with
 | .inl x9=>
 some 0
 | .inr r12=>some r12)
theorem c30 (F:Nat) (a:List Bool) (b:List Bool) (res:Int) (hm:m30 F a b = some res) (h:List ABlk):ACall Tryz.prog 30 [AV.vw 1 (a.map AV.bool),AV.vw 1 (b.map AV.bool)] h (.ret (AV.int .i64 res)) h:=by
 unfold m30 at hm
 refine ACall.mir 0 Tryz.func30 rfl (.cons (.vw (ApartL.map fun _ _=>.bool)) (.cons (.vw (ApartL.map fun _ _=>.bool)) .nil)) (nlst rfl) ?_ h
 show SX _ _ _ 31 _ _ _ _
 refine SX.seq (SX.rr rfl ?_)
 refine SX.seq (SX.seq ?_)
 refine SX.rr rfl ?_
 obtain ⟨o11,ho11,hm⟩:=bindE hm
 refine SX.forget (al':=[(0,AV.vw 1 (a.map AV.bool)),(1,AV.vw 1 (b.map AV.bool)),(5,AV.int .i64 0)]) (leA_of rfl) ?_
 refine SX.iter (fun (s1:Int) (g2:Unit)=>[(0,AV.vw 1 (a.map AV.bool)),(1,AV.vw 1 (b.map AV.bool)),(5,AV.int .i64 s1)]) (fun (s1:Int) (g2:Unit)=>[]) (fun (x9:Unit) (g10:Unit)=>[]) (fun (x9:Unit) (g10:Unit)=>[]) (fun r al df h=>Ret Tryz.prog Tryz.f30 (AV.int .i64 r) al df h) () ho11 rfl rfl ?_ ?_ ?_
 ·intro s1 g2 out3 hb
  refine SX.seq (SX.seq ?_)
  obtain ⟨p4,hj,hb⟩:=bindE hb
  refine SX.join ([(0,AV.vw 1 (a.map AV.bool)),(1,AV.vw 1 (b.map AV.bool)),(5,AV.int .i64 s1),(15,AV.bool p4)]) ([]) (SX.region ?_) ?_
  ·refine SOps.rn 2 rfl (SOps.light rfl rfl (lightV_len (f:=AV.bool) (xs:=a) rfl rfl Tryz.underlying38 rfl) rdNone (SOps.rn 1 rfl ?_))
   refine SOps.splitM rfl rfl rfl rdNone hj (fun hj=>?_) (fun hj=>?_)
   ·refine SOps.rn 2 rfl (SOps.light rfl rfl (lightV_len (f:=AV.bool) (xs:=b) rfl rfl Tryz.underlying38 rfl) rdNone (SOps.re rfl ?_))
    obtain rfl:=oj hj
    exact ⟨rfl,CutTo.sr rfl⟩
   ·refine SOps.re rfl ?_
    obtain rfl:=oj hj
    exact ⟨rfl,CutTo.sr rfl⟩
  refine SX.condM rfl rfl hb (fun ht hb=>?_) (fun ht hb=>?_)
  ·refine SX.sk (SX.seq (SX.block (SX.seq (SX.draw follows_mixed rfl rdNone (PO.rn 2 rfl ?_)))))
   obtain ⟨y6,hy6,hb⟩:=bindE hb
   refine PO.light rfl rfl (lightV_idx (f:=AV.bool) (xs:=a) rfl rfl Tryz.underlying38 rfl hy6) (PO.rn 3 rfl ?_)
   obtain ⟨y7,hy7,hb⟩:=bindE hb
   refine PO.light rfl rfl (lightV_idx (f:=AV.bool) (xs:=b) rfl rfl Tryz.underlying38 rfl hy7) (PO.re rfl ?_)
   refine SX.condM rfl rfl hb (fun ht hb=>?_) (fun ht hb=>?_)
   ·refine SX.seq (SX.seq ?_)
    refine SX.rn 2 rfl ?_
    obtain ⟨y8,hy8,hb⟩:=bindE hb
    refine SOps.light rfl rfl (lightV_idx (f:=AV.bool) (xs:=b) rfl rfl Tryz.underlying38 rfl hy8) rdNone (SOps.re rfl ?_)
    refine SX.condM rfl rfl hb (fun ht hb=>?_) (fun ht hb=>?_)
    ·refine SX.seq (SX.rr rfl (SX.rt ?_))
     exact eI _ (aI (ojs hb) (Ret.mk (vs:=[AV.int .i64 ((-1))]) rfl (.apart .int)))
    ·refine SX.sk (SX.seq (SX.rr rfl (SX.rt ?_)))
     exact eI _ (aI (ojs hb) (Ret.mk (vs:=[AV.int .i64 1]) rfl (.apart .int)))
   ·refine SX.sk (SX.rr rfl ?_)
    exact eI _ (eI () (aI (ojs hb) (CutTo.sr rfl)))
  ·refine SX.ex ?_
   exact aI rfl (eI _ (eI () (aI (ojs hb) (CutTo.sr rfl))))
 ·intro x9 g10 he
  subst he
  refine SX.seq (SX.rr rfl (SX.rt ?_))
  obtain rfl:=oj hm
  exact RetQ.mk (vs:=[AV.int .i64 0]) rfl (.apart .int)
 ·intro r al' df' h' hr hq
  subst hr
  obtain rfl:=oj hm
  exact hq
end Go.AL
namespace Go.AL
open Go Go.Proofs
set_option maxRecDepth 10000
def lits290_5:List ByteArray:=[ByteArray.mk #[115,111,114,116],ByteArray.mk #[111,114,100,101,114,101,100],ByteArray.mk #[118,97,114],ByteArray.mk #[102,105,101,108,100],ByteArray.mk #[112,114,101,100],ByteArray.mk #[102,97,99,116],ByteArray.mk #[97,108,108],ByteArray.mk #[115,111,109,101],ByteArray.mk #[110,111],ByteArray.mk #[111,110,101],ByteArray.mk #[108,111,110,101],ByteArray.mk #[97,108,119,97,121,115],ByteArray.mk #[101,118,101,110,116,117,97,108,108,121],ByteArray.mk #[97,102,116,101,114],ByteArray.mk #[117,110,116,105,108],ByteArray.mk #[110,111,110,101],ByteArray.mk #[117,110,105,118],ByteArray.mk #[105,100,101,110],ByteArray.mk #[105,110],ByteArray.mk #[110,111,116],ByteArray.mk #[116,114,117,101],ByteArray.mk #[102,97,108,115,101]]
def m290 (F:Nat) (s_0:ByteArray):Option Bool:=
 (runs (fun (s1:Int)=>
 (bif decide (s1 < (lits290_5.length:Int)) then
 (idx lits290_5 s1).bind fun y4=>
 bif (y4.toList == s_0.toList) then
 some (Out.ret true)
 else
 some (Out.next (w64 (s1 + 1)))
 else
 some (Out.exit (())):Option (Out (Int) (Unit) Bool))) F (0)).bind fun (o7:(Unit) ⊕ Bool)=>(match o7 with
 | .inl x5=>
 some false
 | .inr r8=>some r8)
theorem c290 (F:Nat) (s_0:ByteArray) (res:Bool) (hm:m290 F s_0 = some res) (h:List ABlk):ACall Tryz.prog 290 [AV.str s_0] h (.ret (AV.bool res)) h:=by
 unfold m290 at hm
 refine ACall.mir 0 Tryz.func290 rfl (.cons .str .nil) (nlst rfl) ?_ h
 show SX _ _ _ 18 _ _ _ _
 refine SX.seq (SX.rr rfl (SX.seq (SX.region (SOps.heavy (v:=AV.sl 1 (lits290_5.map AV.str) (some 22)) (h':=[]) rfl rfl (by kernel_rfl) rdNone (SOps.re rfl ?_)))))
 refine SX.seq (SX.seq ?_)
 refine SX.rr rfl ?_
 obtain ⟨o7,ho7,hm⟩:=bindE hm
 refine SX.forget (al':=[(0,AV.str s_0),(3,AV.sl 1 (lits290_5.map AV.str) (some 22)),(4,AV.int .i64 0)]) (leA_of rfl) ?_
 refine SX.iter (fun (s1:Int) (g2:Unit)=>[(0,AV.str s_0),(3,AV.sl 1 (lits290_5.map AV.str) (some 22)),(4,AV.int .i64 s1)]) (fun (s1:Int) (g2:Unit)=>[]) (fun (x5:Unit) (g6:Unit)=>[]) (fun (x5:Unit) (g6:Unit)=>[]) (fun r al df h=>Ret Tryz.prog Tryz.f290 (AV.bool r) al df h) () ho7 rfl rfl ?_ ?_ ?_
 ·intro s1 g2 out3 hb
  refine SX.seq (SX.seq ?_)
  refine SX.rn 2 rfl (SOps.light rfl rfl (lightV_lenL (f:=AV.str) (xs:=lits290_5) rfl rfl Tryz.underlying186 rfl) rdNone (SOps.re rfl ?_))
  refine SX.condM rfl rfl hb (fun ht hb=>?_) (fun ht hb=>?_)
  ·refine SX.sk (SX.seq (SX.block (SX.seq (SX.rn 2 rfl ?_))))
   obtain ⟨y4,hy4,hb⟩:=bindE hb
   refine SOps.light rfl rfl (lightV_idxL (f:=AV.str) (xs:=lits290_5) rfl rfl Tryz.underlying186 rfl hy4) rdNone (SOps.re rfl ?_)
   refine SX.condM rfl rfl hb (fun ht hb=>?_) (fun ht hb=>?_)
   ·refine SX.seq (SX.rr rfl (SX.rt ?_))
    exact eI _ (aI (ojs hb) (Ret.mk (vs:=[AV.bool true]) rfl (.apart .bool)))
   ·refine SX.sk (SX.rr rfl ?_)
    exact eI _ (eI () (aI (ojs hb) (CutTo.sr rfl)))
  ·refine SX.ex ?_
   exact aI rfl (eI _ (eI () (aI (ojs hb) (CutTo.sr rfl))))
 ·intro x5 g6 he
  subst he
  refine SX.seq (SX.rr rfl (SX.rt ?_))
  obtain rfl:=oj hm
  exact RetQ.mk (vs:=[AV.bool false]) rfl (.apart .bool)
 ·intro r al' df' h' hr hq
  subst hr
  obtain rfl:=oj hm
  exact hq
end Go.AL
namespace Go.AL
open Go Go.Proofs
set_option maxRecDepth 10000
def m240 (F:Nat) (s_0:ByteArray):Option Bool:=
 (bif ((s_0.size:Int) == 0) then
 some (true)
 else
 bif decide (16 < (s_0.size:Int)) then
 some (true)
 else
 (m290 F s_0).bind fun y1=>
 some (y1)).bind fun p2=>
 bif p2 then
 some false
 else
 (runs (fun (s4:Int)=>
 (bif decide (s4 < (s_0.size:Int)) then
 (sidx s_0 s4).bind fun y7=>
 (bif decide (97≤y7) then
 bif decide (y7≤122) then
 some (true)
 else
 bif decide (65≤y7) then
 some (decide (y7≤90))
 else
 some (false)
 else
 bif decide (65≤y7) then
 some (decide (y7≤90))
 else
 some (false)).bind fun p8=>
 (bif (!p8) then
 bif (s4 == 0) then
 some (true)
 else
 bif (y7 != 95) then
 bif decide (y7 < 48) then
 some (true)
 else
 some (decide (57 < y7))
 else
 some (false)
 else
 some (false)).bind fun p10=>
 bif p10 then
 some (Out.ret false)
 else
 some (Out.next (w64 (s4 + 1)))
 else
 some (Out.exit (())):Option (Out (Int) (Unit) Bool))) F (0)).bind fun (o14:(Unit) ⊕ Bool)=>(match o14 with
 | .inl x12=>
 some true
 | .inr r15=>some r15)
theorem c240 (F:Nat) (s_0:ByteArray) (res:Bool) (hm:m240 F s_0 = some res) (h:List ABlk):ACall Tryz.prog 240 [AV.str s_0] h (.ret (AV.bool res)) h:=by
 unfold m240 at hm
 refine ACall.mir 0 Tryz.func240 rfl (.cons .str .nil) (nlst rfl) ?_ h
 show SX _ _ _ 59 _ _ _ _
 refine SX.seq (SX.rr rfl ?_)
 refine SX.seq (SX.seq ?_)
 obtain ⟨p2,hj,hm⟩:=bindE hm
 refine SX.join ([(0,AV.str s_0),(17,AV.bool p2)]) ([]) (SX.region ?_) ?_
 ·refine SOps.rn 3 rfl ?_
  refine SOps.splitM rfl rfl rfl rdNone hj (fun hj=>?_) (fun hj=>?_)
  ·refine SOps.re rfl ?_
   obtain rfl:=oj hj
   exact ⟨rfl,CutTo.sr rfl⟩
  ·refine SOps.rn 4 rfl ?_
   refine SOps.splitM rfl rfl rfl rdNone hj (fun hj=>?_) (fun hj=>?_)
   ·refine SOps.re rfl ?_
    obtain rfl:=oj hj
    exact ⟨rfl,CutTo.sr rfl⟩
   ·refine SOps.rn 1 rfl ?_
    obtain ⟨y1,hy1,hj⟩:=bindE hj
    refine SOps.call rfl rfl rfl rfl rfl (c290 F s_0 y1 hy1 _) rdNone (SOps.re rfl ?_)
    obtain rfl:=oj hj
    exact ⟨rfl,CutTo.sr rfl⟩
 refine SX.condM rfl rfl hm (fun ht hm=>?_) (fun ht hm=>?_)
 ·refine SX.seq (SX.rr rfl (SX.rt ?_))
  obtain rfl:=oj hm
  exact RetQ.mk (vs:=[AV.bool false]) rfl (.apart .bool)
 ·refine SX.sk ?_
  refine SX.seq (SX.seq ?_)
  refine SX.rr rfl ?_
  obtain ⟨o14,ho14,hm⟩:=bindE hm
  refine SX.forget (al':=[(0,AV.str s_0),(3,AV.int .i64 0)]) (leA_of rfl) ?_
  refine SX.iter (fun (s4:Int) (g5:Unit)=>[(0,AV.str s_0),(3,AV.int .i64 s4)]) (fun (s4:Int) (g5:Unit)=>[]) (fun (x12:Unit) (g13:Unit)=>[]) (fun (x12:Unit) (g13:Unit)=>[]) (fun r al df h=>Ret Tryz.prog Tryz.f240 (AV.bool r) al df h) () ho14 rfl rfl ?_ ?_ ?_
  ·intro s4 g5 out6 hb
   refine SX.seq (SX.seq ?_)
   refine SX.rr rfl ?_
   refine SX.condM rfl rfl hb (fun ht hb=>?_) (fun ht hb=>?_)
   ·refine SX.sk (SX.seq (SX.block (SX.seq (SX.rn 2 rfl ?_))))
    obtain ⟨y7,hy7,hb⟩:=bindE hb
    refine SOps.light rfl rfl (lightV_sidx rfl rfl rfl hy7) rdNone (SOps.re rfl (SX.seq ?_))
    obtain ⟨p8,hj,hb⟩:=bindE hb
    refine SX.join ([(0,AV.str s_0),(3,AV.int .i64 s4),(4,AV.int .u8 y7),(5,AV.bool p8)]) ([]) (SX.region ?_) ?_
    ·refine SOps.rn 2 rfl ?_
     refine SOps.splitM rfl rfl rfl rdNone hj (fun hj=>?_) (fun hj=>?_)
     ·refine SOps.rn 3 rfl ?_
      refine SOps.splitM rfl rfl rfl rdNone hj (fun hj=>?_) (fun hj=>?_)
      ·refine SOps.re rfl ?_
       obtain rfl:=oj hj
       exact ⟨rfl,CutTo.sr rfl⟩
      ·refine SOps.rn 2 rfl ?_
       refine SOps.splitM rfl rfl rfl rdNone hj (fun hj=>?_) (fun hj=>?_)
       ·refine SOps.re rfl ?_
        obtain rfl:=oj hj
        exact ⟨rfl,CutTo.sr rfl⟩
       ·refine SOps.re rfl ?_
        obtain rfl:=oj hj
        exact ⟨rfl,CutTo.sr rfl⟩
     ·refine SOps.rn 6 rfl ?_
      refine SOps.splitM rfl rfl rfl rdNone hj (fun hj=>?_) (fun hj=>?_)
      ·refine SOps.re rfl ?_
       obtain rfl:=oj hj
       exact ⟨rfl,CutTo.sr rfl⟩
      ·refine SOps.re rfl ?_
       obtain rfl:=oj hj
       exact ⟨rfl,CutTo.sr rfl⟩
    refine SX.seq ?_
    obtain ⟨p10,hj,hb⟩:=bindE hb
    refine SX.join ([(0,AV.str s_0),(3,AV.int .i64 s4),(58,AV.bool p10)]) ([]) (SX.region ?_) ?_
    ·refine SOps.rn 2 rfl ?_
     refine SOps.splitM rfl rfl rfl rdNone hj (fun hj=>?_) (fun hj=>?_)
     ·refine SOps.rn 2 rfl ?_
      refine SOps.splitM rfl rfl rfl rdNone hj (fun hj=>?_) (fun hj=>?_)
      ·refine SOps.re rfl ?_
       obtain rfl:=oj hj
       exact ⟨rfl,CutTo.sr rfl⟩
      ·refine SOps.rn 2 rfl ?_
       refine SOps.splitM rfl rfl rfl rdNone hj (fun hj=>?_) (fun hj=>?_)
       ·refine SOps.rn 2 rfl ?_
        refine SOps.splitM rfl rfl rfl rdNone hj (fun hj=>?_) (fun hj=>?_)
        ·refine SOps.re rfl ?_
         obtain rfl:=oj hj
         exact ⟨rfl,CutTo.sr rfl⟩
        ·refine SOps.re rfl ?_
         obtain rfl:=oj hj
         exact ⟨rfl,CutTo.sr rfl⟩
       ·refine SOps.re rfl ?_
        obtain rfl:=oj hj
        exact ⟨rfl,CutTo.sr rfl⟩
     ·refine SOps.re rfl ?_
      obtain rfl:=oj hj
      exact ⟨rfl,CutTo.sr rfl⟩
    refine SX.condM rfl rfl hb (fun ht hb=>?_) (fun ht hb=>?_)
    ·refine SX.seq (SX.rr rfl (SX.rt ?_))
     exact eI _ (aI (ojs hb) (Ret.mk (vs:=[AV.bool false]) rfl (.apart .bool)))
    ·refine SX.sk (SX.rr rfl ?_)
     exact eI _ (eI () (aI (ojs hb) (CutTo.sr rfl)))
   ·refine SX.ex ?_
    exact aI rfl (eI _ (eI () (aI (ojs hb) (CutTo.sr rfl))))
  ·intro x12 g13 he
   subst he
   refine SX.seq (SX.rr rfl (SX.rt ?_))
   obtain rfl:=oj hm
   exact RetQ.mk (vs:=[AV.bool true]) rfl (.apart .bool)
  ·intro r al' df' h' hr hq
   subst hr
   obtain rfl:=oj hm
   exact hq
end Go.AL
namespace Go.AL
open Go Go.Proofs
set_option maxRecDepth 10000
def m182 (F:Nat) (n:Node):Option Bool:=
 (bif (n.op == 1) then
 some (true)
 else
 bif (n.op == 15) then
 some (true)
 else
 bif (n.op == 45) then
 some (true)
 else
 bif (n.op == 46) then
 some (true)
 else
 some ((n.op == 47))).bind fun p1=>
 ((m240 F n.name).bind fun y3=>
 bif (!(p1 == y3)) then
 some (true)
 else
 bif (!p1) then
 some ((!(n.name.toList == ByteArray.empty.toList)))
 else
 some (false)).bind fun p4=>
 bif p4 then
 some false
 else
 bif (n.op == 2) then
 (bif decide (1≤n.n) then
 some (decide (n.n≤3))
 else
 some (false)).bind fun p6=>
 some p6
 else
 bif (n.op == 20) then
 (bif decide ((-64)≤n.n) then
 some (decide (n.n≤64))
 else
 some (false)).bind fun p8=>
 some p8
 else
 some ((n.n == 0))
theorem c182 (F:Nat) (n:Node) (res:Bool) (hm:m182 F n = some res) (h:List ABlk):ACall Tryz.prog 182 [AV.agg (n.cells)] h (.ret (AV.bool res)) h:=by
 unfold m182 at hm
 refine ACall.mir 0 Tryz.func182 rfl (.cons (.agg (Node.cells_apart _)) .nil) (nlst rfl) ?_ h
 show SX _ _ _ 66 _ _ _ _
 refine SX.seq (SX.rr rfl (SX.seq ?_))
 obtain ⟨p1,hj,hm⟩:=bindE hm
 refine SX.join ([(1,AV.ptr 0 0 0 0),(3,AV.bool p1)]) ([ABlk.row 0 5 [AV.agg (n.cells)]]) (SX.region ?_) ?_
 ·refine SOps.rn 3 rfl ?_
  refine SOps.splitM rfl rfl rfl rdNone hj (fun hj=>?_) (fun hj=>?_)
  ·refine SOps.re rfl ?_
   obtain rfl:=oj hj
   exact ⟨rfl,CutTo.sr rfl⟩
  ·refine SOps.rn 4 rfl ?_
   refine SOps.splitM rfl rfl rfl rdNone hj (fun hj=>?_) (fun hj=>?_)
   ·refine SOps.re rfl ?_
    obtain rfl:=oj hj
    exact ⟨rfl,CutTo.sr rfl⟩
   ·refine SOps.rn 4 rfl ?_
    refine SOps.splitM rfl rfl rfl rdNone hj (fun hj=>?_) (fun hj=>?_)
    ·refine SOps.re rfl ?_
     obtain rfl:=oj hj
     exact ⟨rfl,CutTo.sr rfl⟩
    ·refine SOps.rn 4 rfl ?_
     refine SOps.splitM rfl rfl rfl rdNone hj (fun hj=>?_) (fun hj=>?_)
     ·refine SOps.re rfl ?_
      obtain rfl:=oj hj
      exact ⟨rfl,CutTo.sr rfl⟩
     ·refine SOps.re rfl ?_
      obtain rfl:=oj hj
      exact ⟨rfl,CutTo.sr rfl⟩
 refine SX.seq (SX.seq ?_)
 obtain ⟨p4,hj,hm⟩:=bindE hm
 refine SX.join ([(1,AV.ptr 0 0 0 0),(40,AV.bool p4)]) ([ABlk.row 0 5 [AV.agg (n.cells)]]) (SX.region ?_) ?_
 ·refine SOps.rn 3 rfl ?_
  obtain ⟨y3,hy3,hj⟩:=bindE hj
  refine SOps.call rfl rfl rfl rfl rfl (c240 F n.name y3 hy3 _) rdNone (SOps.rn 1 rfl ?_)
  refine SOps.splitM rfl rfl rfl rdNone hj (fun hj=>?_) (fun hj=>?_)
  ·refine SOps.re rfl ?_
   obtain rfl:=oj hj
   exact ⟨rfl,CutTo.sr rfl⟩
  ·refine SOps.rn 2 rfl ?_
   refine SOps.splitM rfl rfl rfl rdNone hj (fun hj=>?_) (fun hj=>?_)
   ·refine SOps.re rfl ?_
    obtain rfl:=oj hj
    exact ⟨rfl,CutTo.sr rfl⟩
   ·refine SOps.re rfl ?_
    obtain rfl:=oj hj
    exact ⟨rfl,CutTo.sr rfl⟩
 refine SX.condM rfl rfl hm (fun ht hm=>?_) (fun ht hm=>?_)
 ·refine SX.seq (SX.rr rfl (SX.rt ?_))
  obtain rfl:=oj hm
  exact RetQ.mk (vs:=[AV.bool false]) rfl (.apart .bool)
 ·refine SX.sk ?_
  refine SX.seq (SX.seq ?_)
  refine SX.rr rfl (SX.block (SX.seq (SX.rr rfl ?_)))
  refine SX.condM rfl rfl hm (fun ht hm=>?_) (fun ht hm=>?_)
  ·refine SX.seq ?_
   obtain ⟨p6,hj,hm⟩:=bindE hm
   refine SX.join ([(2,AV.bool p6)]) ([ABlk.row 0 5 [AV.agg (n.cells)]]) (SX.region ?_) ?_
   ·refine SOps.rn 3 rfl ?_
    refine SOps.splitM rfl rfl rfl rdNone hj (fun hj=>?_) (fun hj=>?_)
    ·refine SOps.re rfl ?_
     obtain rfl:=oj hj
     exact ⟨rfl,CutTo.sr rfl⟩
    ·refine SOps.re rfl ?_
     obtain rfl:=oj hj
     exact ⟨rfl,CutTo.sr rfl⟩
   refine SX.rt ?_
   obtain rfl:=oj hm
   exact RetQ.mk (vs:=[AV.bool p6]) rfl (.apart .bool)
  ·refine SX.seq (SX.rr rfl ?_)
   refine SX.condM rfl rfl hm (fun ht hm=>?_) (fun ht hm=>?_)
   ·refine SX.seq ?_
    obtain ⟨p8,hj,hm⟩:=bindE hm
    refine SX.join ([(2,AV.bool p8)]) ([ABlk.row 0 5 [AV.agg (n.cells)]]) (SX.region ?_) ?_
    ·refine SOps.rn 3 rfl ?_
     refine SOps.splitM rfl rfl rfl rdNone hj (fun hj=>?_) (fun hj=>?_)
     ·refine SOps.re rfl ?_
      obtain rfl:=oj hj
      exact ⟨rfl,CutTo.sr rfl⟩
     ·refine SOps.re rfl ?_
      obtain rfl:=oj hj
      exact ⟨rfl,CutTo.sr rfl⟩
    refine SX.rt ?_
    obtain rfl:=oj hm
    exact RetQ.mk (vs:=[AV.bool p8]) rfl (.apart .bool)
   ·refine SX.sk (SX.seq (SX.rr rfl (SX.rt ?_)))
    obtain rfl:=oj hm
    exact RetQ.mk (vs:=[AV.bool ((n.n == 0))]) rfl (.apart .bool)
def m241 (F:Nat) (op:Int) (kids:Int):Option (ByteArray×Bool):=
 (bif (op == 1) then
 some ((op == 1))
 else
 bif (op == 2) then
 some ((op == 2))
 else
 bif (op == 3) then
 some ((op == 3))
 else
 bif (op == 4) then
 some ((op == 4))
 else
 bif (op == 20) then
 some ((op == 20))
 else
 bif (op == 30) then
 some ((op == 30))
 else
 some ((op == 31))).bind fun p1=>
 bif p1 then
 some ((ByteArray.empty,true))
 else
 (bif (op == 5) then
 some ((op == 5))
 else
 bif (op == 11) then
 some ((op == 11))
 else
 bif (op == 12) then
 some ((op == 12))
 else
 bif (op == 13) then
 some ((op == 13))
 else
 bif (op == 21) then
 some ((op == 21))
 else
 bif (op == 34) then
 some ((op == 34))
 else
 bif (op == 35) then
 some ((op == 35))
 else
 bif (op == 36) then
 some ((op == 36))
 else
 some ((op == 37))).bind fun p3=>
 bif p3 then
 some ((ByteArray.mk #[101],true))
 else
 (bif (op == 6) then
 some ((op == 6))
 else
 bif (op == 7) then
 some ((op == 7))
 else
 bif (op == 8) then
 some ((op == 8))
 else
 bif (op == 9) then
 some ((op == 9))
 else
 bif (op == 10) then
 some ((op == 10))
 else
 bif (op == 14) then
 some ((op == 14))
 else
 bif (op == 32) then
 some ((op == 32))
 else
 some ((op == 33))).bind fun p5=>
 bif p5 then
 some ((ByteArray.mk #[101,101],true))
 else
 (bif (op == 15) then
 some ((op == 15))
 else
 bif (op == 45) then
 some ((op == 45))
 else
 some ((op == 46))).bind fun p7=>
 bif p7 then
 some ((ByteArray.mk #[101,102],true))
 else
 (bif (op == 22) then
 some ((op == 22))
 else
 bif (op == 23) then
 some ((op == 23))
 else
 bif (op == 38) then
 some ((op == 38))
 else
 some ((op == 39))).bind fun p9=>
 bif p9 then
 some ((ByteArray.mk #[105,105],true))
 else
 (bif (op == 40) then
 some ((op == 40))
 else
 bif (op == 48) then
 some ((op == 48))
 else
 bif (op == 49) then
 some ((op == 49))
 else
 some ((op == 50))).bind fun p11=>
 bif p11 then
 some ((ByteArray.mk #[102],true))
 else
 (bif (op == 41) then
 some ((op == 41))
 else
 bif (op == 42) then
 some ((op == 42))
 else
 bif (op == 43) then
 some ((op == 43))
 else
 bif (op == 44) then
 some ((op == 44))
 else
 some ((op == 51))).bind fun p13=>
 bif p13 then
 some ((ByteArray.mk #[102,102],true))
 else
 bif (op == 47) then
 (runs (fun (s15:ByteArray×Int)=>
 (bif decide (s15.2 < kids) then
 (sadd s15.1 (ByteArray.mk #[101])).bind fun y18=>
 some (Out.next (y18,w64 (s15.2 + 1)))
 else
 some (Out.exit (s15.1)):Option (Out (ByteArray×Int) (ByteArray) (ByteArray×Bool)))) F (ByteArray.empty,0)).bind fun (o21:(ByteArray) ⊕ (ByteArray×Bool))=>(match o21 with
 | .inl x19=>
 some ((x19,true))
 | .inr r22=>some r22)
 else
 some ((ByteArray.empty,false))
theorem c241 (F:Nat) (op:Int) (kids:Int) (res:(ByteArray×Bool)) (hm:m241 F op kids = some res) (h:List ABlk):ACall Tryz.prog 241 [AV.int .i64 op,AV.int .i64 kids] h (.ret (AV.tup [AV.str res.1,AV.bool res.2])) h:=by
 unfold m241 at hm
 refine ACall.mir 0 Tryz.func241 rfl (.cons .int (.cons .int .nil)) (nlst rfl) ?_ h
 show SX _ _ _ 66 _ _ _ _
 refine SX.seq (SX.rr rfl ?_)
 refine SX.seq (SX.seq ?_)
 refine SX.rr rfl (SX.block ?_)
 refine SX.seq (SX.seq ?_)
 refine SX.rr rfl ?_
 obtain ⟨p1,hj,hm⟩:=bindE hm
 refine SX.join ([(1,AV.int .i64 kids),(8,AV.int .i64 op),(9,AV.bool p1)]) ([]) (SX.condM rfl rfl hj (fun ht hj=>?_) (fun ht hj=>?_)) ?_
 ·refine SX.sk ?_
  obtain rfl:=oj hj
  exact ⟨rfl,CutTo.sr rfl⟩
 ·refine SX.seq (SX.rr rfl ?_)
  refine SX.condM rfl rfl hj (fun ht hj=>?_) (fun ht hj=>?_)
  ·refine SX.sk ?_
   obtain rfl:=oj hj
   exact ⟨rfl,CutTo.sr rfl⟩
  ·refine SX.seq (SX.rr rfl ?_)
   refine SX.condM rfl rfl hj (fun ht hj=>?_) (fun ht hj=>?_)
   ·refine SX.sk ?_
    obtain rfl:=oj hj
    exact ⟨rfl,CutTo.sr rfl⟩
   ·refine SX.seq (SX.rr rfl ?_)
    refine SX.condM rfl rfl hj (fun ht hj=>?_) (fun ht hj=>?_)
    ·refine SX.sk ?_
     obtain rfl:=oj hj
     exact ⟨rfl,CutTo.sr rfl⟩
    ·refine SX.seq (SX.rr rfl ?_)
     refine SX.condM rfl rfl hj (fun ht hj=>?_) (fun ht hj=>?_)
     ·refine SX.sk ?_
      obtain rfl:=oj hj
      exact ⟨rfl,CutTo.sr rfl⟩
     ·refine SX.seq (SX.rr rfl ?_)
      refine SX.condM rfl rfl hj (fun ht hj=>?_) (fun ht hj=>?_)
      ·refine SX.sk ?_
       obtain rfl:=oj hj
       exact ⟨rfl,CutTo.sr rfl⟩
      ·refine SX.rr rfl ?_
       obtain rfl:=oj hj
       exact ⟨rfl,CutTo.sr rfl⟩
 refine SX.condM rfl rfl hm (fun ht hm=>?_) (fun ht hm=>?_)
 ·refine SX.seq (SX.rr rfl (SX.rt ?_))
  obtain rfl:=oj hm
  exact RetQ.mk (vs:=[AV.str ByteArray.empty,AV.bool true]) rfl (.tup (.cons (.apart .str) (.cons (.apart .bool) .nil)))
 ·refine SX.seq (SX.seq ?_)
  refine SX.rr rfl ?_
  obtain ⟨p3,hj,hm⟩:=bindE hm
  refine SX.join ([(1,AV.int .i64 kids),(8,AV.int .i64 op),(17,AV.bool p3)]) ([]) (SX.condM rfl rfl hj (fun ht hj=>?_) (fun ht hj=>?_)) ?_
  ·refine SX.sk ?_
   obtain rfl:=oj hj
   exact ⟨rfl,CutTo.sr rfl⟩
  ·refine SX.seq (SX.rr rfl ?_)
   refine SX.condM rfl rfl hj (fun ht hj=>?_) (fun ht hj=>?_)
   ·refine SX.sk ?_
    obtain rfl:=oj hj
    exact ⟨rfl,CutTo.sr rfl⟩
   ·refine SX.seq (SX.rr rfl ?_)
    refine SX.condM rfl rfl hj (fun ht hj=>?_) (fun ht hj=>?_)
    ·refine SX.sk ?_
     obtain rfl:=oj hj
     exact ⟨rfl,CutTo.sr rfl⟩
    ·refine SX.seq (SX.rr rfl ?_)
     refine SX.condM rfl rfl hj (fun ht hj=>?_) (fun ht hj=>?_)
     ·refine SX.sk ?_
      obtain rfl:=oj hj
      exact ⟨rfl,CutTo.sr rfl⟩
     ·refine SX.seq (SX.rr rfl ?_)
      refine SX.condM rfl rfl hj (fun ht hj=>?_) (fun ht hj=>?_)
      ·refine SX.sk ?_
       obtain rfl:=oj hj
       exact ⟨rfl,CutTo.sr rfl⟩
      ·refine SX.seq (SX.rr rfl ?_)
       refine SX.condM rfl rfl hj (fun ht hj=>?_) (fun ht hj=>?_)
       ·refine SX.sk ?_
        obtain rfl:=oj hj
        exact ⟨rfl,CutTo.sr rfl⟩
       ·refine SX.seq (SX.rr rfl ?_)
        refine SX.condM rfl rfl hj (fun ht hj=>?_) (fun ht hj=>?_)
        ·refine SX.sk ?_
         obtain rfl:=oj hj
         exact ⟨rfl,CutTo.sr rfl⟩
        ·refine SX.seq (SX.rr rfl ?_)
         refine SX.condM rfl rfl hj (fun ht hj=>?_) (fun ht hj=>?_)
         ·refine SX.sk ?_
          obtain rfl:=oj hj
          exact ⟨rfl,CutTo.sr rfl⟩
         ·refine SX.rr rfl ?_
          obtain rfl:=oj hj
          exact ⟨rfl,CutTo.sr rfl⟩
  refine SX.condM rfl rfl hm (fun ht hm=>?_) (fun ht hm=>?_)
  ·refine SX.seq (SX.rr rfl (SX.rt ?_))
   obtain rfl:=oj hm
   exact RetQ.mk (vs:=[AV.str (ByteArray.mk #[101]),AV.bool true]) rfl (.tup (.cons (.apart .str) (.cons (.apart .bool) .nil)))
  ·refine SX.seq (SX.seq ?_)
   refine SX.rr rfl ?_
   obtain ⟨p5,hj,hm⟩:=bindE hm
   refine SX.join ([(1,AV.int .i64 kids),(8,AV.int .i64 op),(27,AV.bool p5)]) ([]) (SX.condM rfl rfl hj (fun ht hj=>?_) (fun ht hj=>?_)) ?_
   ·refine SX.sk ?_
    obtain rfl:=oj hj
    exact ⟨rfl,CutTo.sr rfl⟩
   ·refine SX.seq (SX.rr rfl ?_)
    refine SX.condM rfl rfl hj (fun ht hj=>?_) (fun ht hj=>?_)
    ·refine SX.sk ?_
     obtain rfl:=oj hj
     exact ⟨rfl,CutTo.sr rfl⟩
    ·refine SX.seq (SX.rr rfl ?_)
     refine SX.condM rfl rfl hj (fun ht hj=>?_) (fun ht hj=>?_)
     ·refine SX.sk ?_
      obtain rfl:=oj hj
      exact ⟨rfl,CutTo.sr rfl⟩
     ·refine SX.seq (SX.rr rfl ?_)
      refine SX.condM rfl rfl hj (fun ht hj=>?_) (fun ht hj=>?_)
      ·refine SX.sk ?_
       obtain rfl:=oj hj
       exact ⟨rfl,CutTo.sr rfl⟩
      ·refine SX.seq (SX.rr rfl ?_)
       refine SX.condM rfl rfl hj (fun ht hj=>?_) (fun ht hj=>?_)
       ·refine SX.sk ?_
        obtain rfl:=oj hj
        exact ⟨rfl,CutTo.sr rfl⟩
       ·refine SX.seq (SX.rr rfl ?_)
        refine SX.condM rfl rfl hj (fun ht hj=>?_) (fun ht hj=>?_)
        ·refine SX.sk ?_
         obtain rfl:=oj hj
         exact ⟨rfl,CutTo.sr rfl⟩
        ·refine SX.seq (SX.rr rfl ?_)
         refine SX.condM rfl rfl hj (fun ht hj=>?_) (fun ht hj=>?_)
         ·refine SX.sk ?_
          obtain rfl:=oj hj
          exact ⟨rfl,CutTo.sr rfl⟩
         ·refine SX.rr rfl ?_
          obtain rfl:=oj hj
          exact ⟨rfl,CutTo.sr rfl⟩
   refine SX.condM rfl rfl hm (fun ht hm=>?_) (fun ht hm=>?_)
   ·refine SX.seq (SX.rr rfl (SX.rt ?_))
    obtain rfl:=oj hm
    exact RetQ.mk (vs:=[AV.str (ByteArray.mk #[101,101]),AV.bool true]) rfl (.tup (.cons (.apart .str) (.cons (.apart .bool) .nil)))
   ·refine SX.seq (SX.seq ?_)
    refine SX.rr rfl ?_
    obtain ⟨p7,hj,hm⟩:=bindE hm
    refine SX.join ([(1,AV.int .i64 kids),(8,AV.int .i64 op),(36,AV.bool p7)]) ([]) (SX.condM rfl rfl hj (fun ht hj=>?_) (fun ht hj=>?_)) ?_
    ·refine SX.sk ?_
     obtain rfl:=oj hj
     exact ⟨rfl,CutTo.sr rfl⟩
    ·refine SX.seq (SX.rr rfl ?_)
     refine SX.condM rfl rfl hj (fun ht hj=>?_) (fun ht hj=>?_)
     ·refine SX.sk ?_
      obtain rfl:=oj hj
      exact ⟨rfl,CutTo.sr rfl⟩
     ·refine SX.rr rfl ?_
      obtain rfl:=oj hj
      exact ⟨rfl,CutTo.sr rfl⟩
    refine SX.condM rfl rfl hm (fun ht hm=>?_) (fun ht hm=>?_)
    ·refine SX.seq (SX.rr rfl (SX.rt ?_))
     obtain rfl:=oj hm
     exact RetQ.mk (vs:=[AV.str (ByteArray.mk #[101,102]),AV.bool true]) rfl (.tup (.cons (.apart .str) (.cons (.apart .bool) .nil)))
    ·refine SX.seq (SX.seq ?_)
     refine SX.rr rfl ?_
     obtain ⟨p9,hj,hm⟩:=bindE hm
     refine SX.join ([(1,AV.int .i64 kids),(8,AV.int .i64 op),(40,AV.bool p9)]) ([]) (SX.condM rfl rfl hj (fun ht hj=>?_) (fun ht hj=>?_)) ?_
     ·refine SX.sk ?_
      obtain rfl:=oj hj
      exact ⟨rfl,CutTo.sr rfl⟩
     ·refine SX.seq (SX.rr rfl ?_)
      refine SX.condM rfl rfl hj (fun ht hj=>?_) (fun ht hj=>?_)
      ·refine SX.sk ?_
       obtain rfl:=oj hj
       exact ⟨rfl,CutTo.sr rfl⟩
      ·refine SX.seq (SX.rr rfl ?_)
       refine SX.condM rfl rfl hj (fun ht hj=>?_) (fun ht hj=>?_)
       ·refine SX.sk ?_
        obtain rfl:=oj hj
        exact ⟨rfl,CutTo.sr rfl⟩
       ·refine SX.rr rfl ?_
        obtain rfl:=oj hj
        exact ⟨rfl,CutTo.sr rfl⟩
     refine SX.condM rfl rfl hm (fun ht hm=>?_) (fun ht hm=>?_)
     ·refine SX.seq (SX.rr rfl (SX.rt ?_))
      obtain rfl:=oj hm
      exact RetQ.mk (vs:=[AV.str (ByteArray.mk #[105,105]),AV.bool true]) rfl (.tup (.cons (.apart .str) (.cons (.apart .bool) .nil)))
     ·refine SX.seq (SX.seq ?_)
      refine SX.rr rfl ?_
      obtain ⟨p11,hj,hm⟩:=bindE hm
      refine SX.join ([(1,AV.int .i64 kids),(8,AV.int .i64 op),(45,AV.bool p11)]) ([]) (SX.condM rfl rfl hj (fun ht hj=>?_) (fun ht hj=>?_)) ?_
      ·refine SX.sk ?_
       obtain rfl:=oj hj
       exact ⟨rfl,CutTo.sr rfl⟩
      ·refine SX.seq (SX.rr rfl ?_)
       refine SX.condM rfl rfl hj (fun ht hj=>?_) (fun ht hj=>?_)
       ·refine SX.sk ?_
        obtain rfl:=oj hj
        exact ⟨rfl,CutTo.sr rfl⟩
       ·refine SX.seq (SX.rr rfl ?_)
        refine SX.condM rfl rfl hj (fun ht hj=>?_) (fun ht hj=>?_)
        ·refine SX.sk ?_
         obtain rfl:=oj hj
         exact ⟨rfl,CutTo.sr rfl⟩
        ·refine SX.rr rfl ?_
         obtain rfl:=oj hj
         exact ⟨rfl,CutTo.sr rfl⟩
      refine SX.condM rfl rfl hm (fun ht hm=>?_) (fun ht hm=>?_)
      ·refine SX.seq (SX.rr rfl (SX.rt ?_))
       obtain rfl:=oj hm
       exact RetQ.mk (vs:=[AV.str (ByteArray.mk #[102]),AV.bool true]) rfl (.tup (.cons (.apart .str) (.cons (.apart .bool) .nil)))
      ·refine SX.seq (SX.seq ?_)
       refine SX.rr rfl ?_
       obtain ⟨p13,hj,hm⟩:=bindE hm
       refine SX.join ([(1,AV.int .i64 kids),(8,AV.int .i64 op),(50,AV.bool p13)]) ([]) (SX.condM rfl rfl hj (fun ht hj=>?_) (fun ht hj=>?_)) ?_
       ·refine SX.sk ?_
        obtain rfl:=oj hj
        exact ⟨rfl,CutTo.sr rfl⟩
       ·refine SX.seq (SX.rr rfl ?_)
        refine SX.condM rfl rfl hj (fun ht hj=>?_) (fun ht hj=>?_)
        ·refine SX.sk ?_
         obtain rfl:=oj hj
         exact ⟨rfl,CutTo.sr rfl⟩
        ·refine SX.seq (SX.rr rfl ?_)
         refine SX.condM rfl rfl hj (fun ht hj=>?_) (fun ht hj=>?_)
         ·refine SX.sk ?_
          obtain rfl:=oj hj
          exact ⟨rfl,CutTo.sr rfl⟩
         ·refine SX.seq (SX.rr rfl ?_)
          refine SX.condM rfl rfl hj (fun ht hj=>?_) (fun ht hj=>?_)
          ·refine SX.sk ?_
           obtain rfl:=oj hj
           exact ⟨rfl,CutTo.sr rfl⟩
          ·refine SX.rr rfl ?_
           obtain rfl:=oj hj
           exact ⟨rfl,CutTo.sr rfl⟩
       refine SX.condM rfl rfl hm (fun ht hm=>?_) (fun ht hm=>?_)
       ·refine SX.seq (SX.rr rfl (SX.rt ?_))
        obtain rfl:=oj hm
        exact RetQ.mk (vs:=[AV.str (ByteArray.mk #[102,102]),AV.bool true]) rfl (.tup (.cons (.apart .str) (.cons (.apart .bool) .nil)))
       ·refine SX.seq (SX.rr rfl ?_)
        refine SX.condM rfl rfl hm (fun ht hm=>?_) (fun ht hm=>?_)
        ·refine SX.seq (SX.rr rfl ?_)
         refine SX.seq (SX.seq ?_)
         refine SX.rr rfl ?_
         obtain ⟨o21,ho21,hm⟩:=bindE hm
         refine SX.forget (al':=[(1,AV.int .i64 kids),(6,AV.str ByteArray.empty),(7,AV.int .i64 0)]) (leA_of rfl) ?_
         refine SX.iter (fun (s15:ByteArray×Int) (g16:Unit)=>[(1,AV.int .i64 kids),(6,AV.str s15.1),(7,AV.int .i64 s15.2)]) (fun (s15:ByteArray×Int) (g16:Unit)=>[]) (fun (x19:ByteArray) (g20:Unit)=>[(6,AV.str x19)]) (fun (x19:ByteArray) (g20:Unit)=>[]) (fun r al df h=>Ret Tryz.prog Tryz.f241 (AV.tup [AV.str r.1,AV.bool r.2]) al df h) () ho21 rfl rfl ?_ ?_ ?_
         ·intro s15 g16 out17 hb
          refine SX.seq (SX.seq ?_)
          refine SX.rr rfl ?_
          refine SX.condM rfl rfl hb (fun ht hb=>?_) (fun ht hb=>?_)
          ·refine SX.sk (SX.seq (SX.block (SX.rn 1 rfl ?_)))
           obtain ⟨y18,hy18,hb⟩:=bindE hb
           refine SOps.light rfl rfl (lightV_sadd rfl rfl hy18) rdNone (SOps.re rfl (SX.rr rfl ?_))
           exact eI _ (eI () (aI (ojs hb) (CutTo.sr rfl)))
          ·refine SX.ex ?_
           exact aI rfl (eI _ (eI () (aI (ojs hb) (CutTo.sr rfl))))
         ·intro x19 g20 he
          subst he
          refine SX.seq (SX.rr rfl (SX.rt ?_))
          obtain rfl:=oj hm
          exact RetQ.mk (vs:=[AV.str x19,AV.bool true]) rfl (.tup (.cons (.apart .str) (.cons (.apart .bool) .nil)))
         ·intro r al' df' h' hr hq
          subst hr
          obtain rfl:=oj hm
          exact hq
        ·refine SX.sk (SX.seq (SX.rr rfl (SX.rt ?_)))
         obtain rfl:=oj hm
         exact RetQ.mk (vs:=[AV.str ByteArray.empty,AV.bool false]) rfl (.tup (.cons (.apart .str) (.cons (.apart .bool) .nil)))
def m242 (F:Nat) (op:Int):Option Int:=
 (bif decide (1≤op) then
 some (decide (op≤15))
 else
 some (false)).bind fun p1=>
 bif p1 then
 some 101
 else
 (bif decide (20≤op) then
 some (decide (op≤23))
 else
 some (false)).bind fun p3=>
 bif p3 then
 some 105
 else
 (bif decide (30≤op) then
 some (decide (op≤51))
 else
 some (false)).bind fun p5=>
 bif p5 then
 some 102
 else
 some 0
theorem c242 (F:Nat) (op:Int) (res:Int) (hm:m242 F op = some res) (h:List ABlk):ACall Tryz.prog 242 [AV.int .i64 op] h (.ret (AV.int .u8 res)) h:=by
 unfold m242 at hm
 refine ACall.mir 0 Tryz.func242 rfl (.cons .int .nil) (nlst rfl) ?_ h
 show SX _ _ _ 21 _ _ _ _
 refine SX.seq (SX.rr rfl ?_)
 refine SX.seq (SX.seq ?_)
 obtain ⟨p1,hj,hm⟩:=bindE hm
 refine SX.join ([(0,AV.int .i64 op),(8,AV.bool p1)]) ([]) (SX.region ?_) ?_
 ·refine SOps.rn 2 rfl ?_
  refine SOps.splitM rfl rfl rfl rdNone hj (fun hj=>?_) (fun hj=>?_)
  ·refine SOps.re rfl ?_
   obtain rfl:=oj hj
   exact ⟨rfl,CutTo.sr rfl⟩
  ·refine SOps.re rfl ?_
   obtain rfl:=oj hj
   exact ⟨rfl,CutTo.sr rfl⟩
 refine SX.condM rfl rfl hm (fun ht hm=>?_) (fun ht hm=>?_)
 ·refine SX.seq (SX.rr rfl (SX.rt ?_))
  obtain rfl:=oj hm
  exact RetQ.mk (vs:=[AV.int .u8 101]) rfl (.apart .int)
 ·refine SX.sk ?_
  refine SX.seq (SX.seq ?_)
  obtain ⟨p3,hj,hm⟩:=bindE hm
  refine SX.join ([(0,AV.int .i64 op),(14,AV.bool p3)]) ([]) (SX.region ?_) ?_
  ·refine SOps.rn 2 rfl ?_
   refine SOps.splitM rfl rfl rfl rdNone hj (fun hj=>?_) (fun hj=>?_)
   ·refine SOps.re rfl ?_
    obtain rfl:=oj hj
    exact ⟨rfl,CutTo.sr rfl⟩
   ·refine SOps.re rfl ?_
    obtain rfl:=oj hj
    exact ⟨rfl,CutTo.sr rfl⟩
  refine SX.condM rfl rfl hm (fun ht hm=>?_) (fun ht hm=>?_)
  ·refine SX.seq (SX.rr rfl (SX.rt ?_))
   obtain rfl:=oj hm
   exact RetQ.mk (vs:=[AV.int .u8 105]) rfl (.apart .int)
  ·refine SX.sk ?_
   refine SX.seq (SX.seq ?_)
   obtain ⟨p5,hj,hm⟩:=bindE hm
   refine SX.join ([(20,AV.bool p5)]) ([]) (SX.region ?_) ?_
   ·refine SOps.rn 2 rfl ?_
    refine SOps.splitM rfl rfl rfl rdNone hj (fun hj=>?_) (fun hj=>?_)
    ·refine SOps.re rfl ?_
     obtain rfl:=oj hj
     exact ⟨rfl,CutTo.sr rfl⟩
    ·refine SOps.re rfl ?_
     obtain rfl:=oj hj
     exact ⟨rfl,CutTo.sr rfl⟩
   refine SX.condM rfl rfl hm (fun ht hm=>?_) (fun ht hm=>?_)
   ·refine SX.seq (SX.rr rfl (SX.rt ?_))
    obtain rfl:=oj hm
    exact RetQ.mk (vs:=[AV.int .u8 102]) rfl (.apart .int)
   ·refine SX.sk (SX.seq (SX.rr rfl (SX.rt ?_)))
    obtain rfl:=oj hm
    exact RetQ.mk (vs:=[AV.int .u8 0]) rfl (.apart .int)
def m183 (F:Nat) (op:Int) (kids:List Node):Option Bool:=
 (m241 F op ((kids.length:Int))).bind fun y1=>
 (bif (!y1.2) then
 some (true)
 else
 some (((y1.1.size:Int) != (kids.length:Int)))).bind fun p2=>
 bif p2 then
 some false
 else
 (runs (fun (s4:Int)=>
 (bif decide (s4 < (kids.length:Int)) then
 (idx kids s4).bind fun y7=>
 (m242 F y7.op).bind fun y8=>
 (sidx y1.1 s4).bind fun y9=>
 bif (y8 != y9) then
 some (Out.ret false)
 else
 some (Out.next (w64 (s4 + 1)))
 else
 some (Out.exit (())):Option (Out (Int) (Unit) Bool))) F (0)).bind fun (o12:(Unit) ⊕ Bool)=>(match o12 with
 | .inl x10=>
 some true
 | .inr r13=>some r13)
theorem c183 (F:Nat) (op:Int) (kids:List Node) (res:Bool) (hm:m183 F op kids = some res) (h:List ABlk):ACall Tryz.prog 183 [AV.int .i64 op,AV.vw 5 (navs kids)] h (.ret (AV.bool res)) h:=by
 unfold m183 at hm
 refine ACall.mir 0 Tryz.func183 rfl (.cons .int (.cons (.vw (navs_apart _)) .nil)) (nlst rfl) ?_ h
 show SX _ _ _ 40 _ _ _ _
 refine SX.seq (SX.rr rfl (SX.seq (SX.rn 2 rfl (SOps.light rfl rfl (lightV_lenN rfl rfl Tryz.underlying64 rfl) rdNone ?_))))
 obtain ⟨y1,hy1,hm⟩:=bindE hm
 refine SOps.call rfl rfl rfl rfl rfl (c241 F op ((kids.length:Int)) y1 hy1 _) rdNone (SOps.re rfl ?_)
 refine SX.seq (SX.seq ?_)
 obtain ⟨p2,hj,hm⟩:=bindE hm
 refine SX.join ([(1,AV.vw 5 (navs kids)),(5,AV.str y1.1),(23,AV.bool p2)]) ([]) (SX.region ?_) ?_
 ·refine SOps.rn 2 rfl ?_
  refine SOps.splitM rfl rfl rfl rdNone hj (fun hj=>?_) (fun hj=>?_)
  ·refine SOps.re rfl ?_
   obtain rfl:=oj hj
   exact ⟨rfl,CutTo.sr rfl⟩
  ·refine SOps.rn 3 rfl (SOps.light rfl rfl (lightV_lenN rfl rfl Tryz.underlying64 rfl) rdNone (SOps.re rfl ?_))
   obtain rfl:=oj hj
   exact ⟨rfl,CutTo.sr rfl⟩
 refine SX.condM rfl rfl hm (fun ht hm=>?_) (fun ht hm=>?_)
 ·refine SX.seq (SX.rr rfl (SX.rt ?_))
  obtain rfl:=oj hm
  exact RetQ.mk (vs:=[AV.bool false]) rfl (.apart .bool)
 ·refine SX.sk ?_
  refine SX.seq (SX.seq ?_)
  refine SX.rr rfl ?_
  obtain ⟨o12,ho12,hm⟩:=bindE hm
  refine SX.forget (al':=[(1,AV.vw 5 (navs kids)),(5,AV.str y1.1),(7,AV.int .i64 0)]) (leA_of rfl) ?_
  refine SX.iter (fun (s4:Int) (g5:Unit)=>[(1,AV.vw 5 (navs kids)),(5,AV.str y1.1),(7,AV.int .i64 s4)]) (fun (s4:Int) (g5:Unit)=>[]) (fun (x10:Unit) (g11:Unit)=>[]) (fun (x10:Unit) (g11:Unit)=>[]) (fun r al df h=>Ret Tryz.prog Tryz.f183 (AV.bool r) al df h) () ho12 rfl rfl ?_ ?_ ?_
  ·intro s4 g5 out6 hb
   refine SX.seq (SX.seq ?_)
   refine SX.rn 2 rfl (SOps.light rfl rfl (lightV_lenN rfl rfl Tryz.underlying64 rfl) rdNone (SOps.re rfl ?_))
   refine SX.condM rfl rfl hb (fun ht hb=>?_) (fun ht hb=>?_)
   ·refine SX.sk (SX.seq (SX.block (SX.seq (SX.draw follows_mixed rfl rdNone (PO.rn 2 rfl ?_)))))
    obtain ⟨y7,hy7,hb⟩:=bindE hb
    refine PO.light rfl rfl (lightV_idxN rfl rfl Tryz.underlying64 rfl hy7) (PO.rn 2 rfl ?_)
    obtain ⟨y8,hy8,hb⟩:=bindE hb
    refine PO.call rfl rfl rfl rfl rfl (c242 F y7.op y8 hy8 _) (PO.rn 2 rfl ?_)
    obtain ⟨y9,hy9,hb⟩:=bindE hb
    refine PO.light rfl rfl (lightV_sidx rfl rfl rfl hy9) (PO.re rfl ?_)
    refine SX.condM rfl rfl hb (fun ht hb=>?_) (fun ht hb=>?_)
    ·refine SX.seq (SX.rr rfl (SX.rt ?_))
     exact eI _ (aI (ojs hb) (Ret.mk (vs:=[AV.bool false]) rfl (.apart .bool)))
    ·refine SX.sk (SX.rr rfl ?_)
     exact eI _ (eI () (aI (ojs hb) (CutTo.sr rfl)))
   ·refine SX.ex ?_
    exact aI rfl (eI _ (eI () (aI (ojs hb) (CutTo.sr rfl))))
  ·intro x10 g11 he
   subst he
   refine SX.seq (SX.rr rfl (SX.rt ?_))
   obtain rfl:=oj hm
   exact RetQ.mk (vs:=[AV.bool true]) rfl (.apart .bool)
  ·intro r al' df' h' hr hq
   subst hr
   obtain rfl:=oj hm
   exact hq
def m128p (F:Nat) (m128_:Node→Int→Option Int) (n:Node) (left:Int):Option Int:=
 (runs (fun (s1:Int×Int)=>
 ((bif decide (s1.2 < (n.kids.length:Int)) then
 some (decide (s1.1≤left))
 else
 some (false)).bind fun p4=>
 bif p4 then
 (idx n.kids s1.2).bind fun y6=>
 (m128_ y6 (w64 (left - s1.1))).bind fun y7=>
 some (Out.next (w64 (s1.1 + y7),w64 (s1.2 + 1)))
 else
 some (Out.exit (s1.1)):Option (Out (Int×Int) (Int) Int))) F (1,0)).bind fun (o10:(Int) ⊕ Int)=>(match o10 with
 | .inl x8=>
 some x8
 | .inr r11=>some r11)
theorem c128p (F:Nat) (m128_:Node→Int→Option Int) (hc128_:∀ b0 b1 r,m128_ b0 b1 = some r→∀ h,ACall Tryz.prog 128 [AV.agg (b0.cells),AV.int .i64 b1] h (.ret (AV.int .i64 r)) h) (n:Node) (left:Int) (res:Int) (hm:m128p F m128_ n left = some res) (h:List ABlk):ACall Tryz.prog 128 [AV.agg (n.cells),AV.int .i64 left] h (.ret (AV.int .i64 res)) h:=by
 unfold m128p at hm
 refine ACall.mir 0 Tryz.func128 rfl (.cons (.agg (Node.cells_apart _)) (.cons .int .nil)) (nlst rfl) ?_ h
 show SX _ _ _ 31 _ _ _ _
 refine SX.seq (SX.rr rfl (SX.seq (SX.rr rfl ?_)))
 refine SX.seq (SX.seq ?_)
 refine SX.rr rfl ?_
 obtain ⟨o10,ho10,hm⟩:=bindE hm
 refine SX.forget (al':=[(1,AV.int .i64 left),(2,AV.ptr 0 0 0 0),(5,AV.int .i64 1),(6,AV.int .i64 0)]) (leA_of rfl) ?_
 refine SX.iter (fun (s1:Int×Int) (g2:Unit)=>[(1,AV.int .i64 left),(2,AV.ptr 0 0 0 0),(5,AV.int .i64 s1.1),(6,AV.int .i64 s1.2)]) (fun (s1:Int×Int) (g2:Unit)=>[ABlk.row 0 5 [AV.agg (n.cells)]]) (fun (x8:Int) (g9:Unit)=>[(5,AV.int .i64 x8)]) (fun (x8:Int) (g9:Unit)=>[ABlk.row 0 5 [AV.agg (n.cells)]]) (fun r al df h=>Ret Tryz.prog Tryz.f128 (AV.int .i64 r) al df h) () ho10 rfl rfl ?_ ?_ ?_
 ·intro s1 g2 out3 hb
  refine SX.seq (SX.seq ?_)
  obtain ⟨p4,hj,hb⟩:=bindE hb
  refine SX.join ([(1,AV.int .i64 left),(2,AV.ptr 0 0 0 0),(5,AV.int .i64 s1.1),(6,AV.int .i64 s1.2),(16,AV.bool p4)]) ([ABlk.row 0 5 [AV.agg (n.cells)]]) (SX.region ?_) ?_
  ·refine SOps.rn 3 rfl (SOps.light rfl rfl (lightV_lenN rfl rfl Tryz.underlying64 rfl) rdNone (SOps.rn 1 rfl ?_))
   refine SOps.splitM rfl rfl rfl rdNone hj (fun hj=>?_) (fun hj=>?_)
   ·refine SOps.re rfl ?_
    obtain rfl:=oj hj
    exact ⟨rfl,CutTo.sr rfl⟩
   ·refine SOps.re rfl ?_
    obtain rfl:=oj hj
    exact ⟨rfl,CutTo.sr rfl⟩
  refine SX.condM rfl rfl hb (fun ht hb=>?_) (fun ht hb=>?_)
  ·refine SX.sk (SX.seq (SX.block (SX.rn 4 rfl ?_)))
   obtain ⟨y6,hy6,hb⟩:=bindE hb
   refine SOps.light rfl rfl (lightV_idxN rfl rfl Tryz.underlying64 rfl hy6) rdNone (SOps.rn 4 rfl ?_)
   obtain ⟨y7,hy7,hb⟩:=bindE hb
   refine SOps.call rfl rfl rfl rfl rfl (hc128_ y6 (w64 (left - s1.1)) y7 hy7 _) rdNone (SOps.re rfl (SX.rr rfl ?_))
   exact eI _ (eI () (aI (ojs hb) (CutTo.sr rfl)))
  ·refine SX.ex ?_
   exact aI rfl (eI _ (eI () (aI (ojs hb) (CutTo.sr rfl))))
 ·intro x8 g9 he
  subst he
  refine SX.seq (SX.rr rfl (SX.rt ?_))
  obtain rfl:=oj hm
  exact RetQ.mk (vs:=[AV.int .i64 x8]) rfl (.apart .int)
 ·intro r al' df' h' hr hq
  subst hr
  obtain rfl:=oj hm
  exact hq
def m128n (F:Nat):Nat→Node→Int→Option Int
 | 0,_,_=>none
 | fu + 1,n,left=>m128p F (m128n F fu) n left
theorem c128n (F:Nat):∀ (fu:Nat) (n:Node) (left:Int) (res:Int),m128n F fu n left = some res→∀ h,ACall Tryz.prog 128 [AV.agg (n.cells),AV.int .i64 left] h (.ret (AV.int .i64 res)) h
 | 0,_,_,_,hm=>by cases hm
 | fu + 1,n,left,res,hm=>fun h=>c128p F (m128n F fu) (fun b0 b1 r hr h=>c128n F fu b0 b1 r hr h) n left res hm h
def m128 (F:Nat) (n:Node) (left:Int):Option Int:=m128n F F n left
theorem c128 (F:Nat) (n:Node) (left:Int) (res:Int) (hm:m128 F n left = some res) (h:List ABlk):ACall Tryz.prog 128 [AV.agg (n.cells),AV.int .i64 left] h (.ret (AV.int .i64 res)) h:=c128n F F n left res hm h
def m129p (F:Nat) (m129_:Node→Int→Option Bool) (n:Node) (levels:Int):Option Bool:=
 (bif decide (levels < 1) then
 some (true)
 else
 (m182 F n).bind fun y1=>
 bif (!y1) then
 some (true)
 else
 (m183 F n.op n.kids).bind fun y2=>
 some ((!y2))).bind fun p3=>
 bif p3 then
 some false
 else
 (runs (fun (s5:Int)=>
 (bif decide (s5 < (n.kids.length:Int)) then
 (idx n.kids s5).bind fun y8=>
 (m129_ y8 (w64 (levels - 1))).bind fun y9=>
 bif (!y9) then
 some (Out.ret false)
 else
 some (Out.next (w64 (s5 + 1)))
 else
 some (Out.exit (())):Option (Out (Int) (Unit) Bool))) F (0)).bind fun (o12:(Unit) ⊕ Bool)=>(match o12 with
 | .inl x10=>
 some true
 | .inr r13=>some r13)
theorem c129p (F:Nat) (m129_:Node→Int→Option Bool) (hc129_:∀ b0 b1 r,m129_ b0 b1 = some r→∀ h,ACall Tryz.prog 129 [AV.agg (b0.cells),AV.int .i64 b1] h (.ret (AV.bool r)) h) (n:Node) (levels:Int) (res:Bool) (hm:m129p F m129_ n levels = some res) (h:List ABlk):ACall Tryz.prog 129 [AV.agg (n.cells),AV.int .i64 levels] h (.ret (AV.bool res)) h:=by
 unfold m129p at hm
 refine ACall.mir 0 Tryz.func129 rfl (.cons (.agg (Node.cells_apart _)) (.cons .int .nil)) (nlst rfl) ?_ h
 show SX _ _ _ 37 _ _ _ _
 refine SX.seq (SX.rr rfl ?_)
 refine SX.seq (SX.seq ?_)
 obtain ⟨p3,hj,hm⟩:=bindE hm
 refine SX.join ([(1,AV.int .i64 levels),(2,AV.ptr 0 0 0 0),(20,AV.bool p3)]) ([ABlk.row 0 5 [AV.agg (n.cells)]]) (SX.region ?_) ?_
 ·refine SOps.rn 2 rfl ?_
  refine SOps.splitM rfl rfl rfl rdNone hj (fun hj=>?_) (fun hj=>?_)
  ·refine SOps.re rfl ?_
   obtain rfl:=oj hj
   exact ⟨rfl,CutTo.sr rfl⟩
  ·refine SOps.rn 1 rfl ?_
   obtain ⟨y1,hy1,hj⟩:=bindE hj
   refine SOps.call rfl rfl rfl rfl rfl (c182 F n y1 hy1 _) rdNone (SOps.rn 2 rfl ?_)
   refine SOps.splitM rfl rfl rfl rdNone hj (fun hj=>?_) (fun hj=>?_)
   ·refine SOps.re rfl ?_
    obtain rfl:=oj hj
    exact ⟨rfl,CutTo.sr rfl⟩
   ·refine SOps.rn 4 rfl ?_
    obtain ⟨y2,hy2,hj⟩:=bindE hj
    refine SOps.call rfl rfl rfl rfl rfl (c183 F n.op n.kids y2 hy2 _) rdNone (SOps.re rfl ?_)
    obtain rfl:=oj hj
    exact ⟨rfl,CutTo.sr rfl⟩
 refine SX.condM rfl rfl hm (fun ht hm=>?_) (fun ht hm=>?_)
 ·refine SX.seq (SX.rr rfl (SX.rt ?_))
  obtain rfl:=oj hm
  exact RetQ.mk (vs:=[AV.bool false]) rfl (.apart .bool)
 ·refine SX.sk ?_
  refine SX.seq (SX.seq ?_)
  refine SX.rr rfl ?_
  obtain ⟨o12,ho12,hm⟩:=bindE hm
  refine SX.forget (al':=[(1,AV.int .i64 levels),(2,AV.ptr 0 0 0 0),(5,AV.int .i64 0)]) (leA_of rfl) ?_
  refine SX.iter (fun (s5:Int) (g6:Unit)=>[(1,AV.int .i64 levels),(2,AV.ptr 0 0 0 0),(5,AV.int .i64 s5)]) (fun (s5:Int) (g6:Unit)=>[ABlk.row 0 5 [AV.agg (n.cells)]]) (fun (x10:Unit) (g11:Unit)=>[]) (fun (x10:Unit) (g11:Unit)=>[ABlk.row 0 5 [AV.agg (n.cells)]]) (fun r al df h=>Ret Tryz.prog Tryz.f129 (AV.bool r) al df h) () ho12 rfl rfl ?_ ?_ ?_
  ·intro s5 g6 out7 hb
   refine SX.seq (SX.seq ?_)
   refine SX.rn 3 rfl (SOps.light rfl rfl (lightV_lenN rfl rfl Tryz.underlying64 rfl) rdNone (SOps.re rfl ?_))
   refine SX.condM rfl rfl hb (fun ht hb=>?_) (fun ht hb=>?_)
   ·refine SX.sk (SX.seq (SX.block (SX.seq (SX.rn 3 rfl ?_))))
    obtain ⟨y8,hy8,hb⟩:=bindE hb
    refine SOps.light rfl rfl (lightV_idxN rfl rfl Tryz.underlying64 rfl hy8) rdNone (SOps.rn 3 rfl ?_)
    obtain ⟨y9,hy9,hb⟩:=bindE hb
    refine SOps.call rfl rfl rfl rfl rfl (hc129_ y8 (w64 (levels - 1)) y9 hy9 _) rdNone (SOps.re rfl ?_)
    refine SX.condM rfl rfl hb (fun ht hb=>?_) (fun ht hb=>?_)
    ·refine SX.seq (SX.rr rfl (SX.rt ?_))
     exact eI _ (aI (ojs hb) (Ret.mk (vs:=[AV.bool false]) rfl (.apart .bool)))
    ·refine SX.sk (SX.rr rfl ?_)
     exact eI _ (eI () (aI (ojs hb) (CutTo.sr rfl)))
   ·refine SX.ex ?_
    exact aI rfl (eI _ (eI () (aI (ojs hb) (CutTo.sr rfl))))
  ·intro x10 g11 he
   subst he
   refine SX.seq (SX.rr rfl (SX.rt ?_))
   obtain rfl:=oj hm
   exact RetQ.mk (vs:=[AV.bool true]) rfl (.apart .bool)
  ·intro r al' df' h' hr hq
   subst hr
   obtain rfl:=oj hm
   exact hq
def m129n (F:Nat):Nat→Node→Int→Option Bool
 | 0,_,_=>none
 | fu + 1,n,levels=>m129p F (m129n F fu) n levels
theorem c129n (F:Nat):∀ (fu:Nat) (n:Node) (levels:Int) (res:Bool),m129n F fu n levels = some res→∀ h,ACall Tryz.prog 129 [AV.agg (n.cells),AV.int .i64 levels] h (.ret (AV.bool res)) h
 | 0,_,_,_,hm=>by cases hm
 | fu + 1,n,levels,res,hm=>fun h=>c129p F (m129n F fu) (fun b0 b1 r hr h=>c129n F fu b0 b1 r hr h) n levels res hm h
def m129 (F:Nat) (n:Node) (levels:Int):Option Bool:=m129n F F n levels
theorem c129 (F:Nat) (n:Node) (levels:Int) (res:Bool) (hm:m129 F n levels = some res) (h:List ABlk):ACall Tryz.prog 129 [AV.agg (n.cells),AV.int .i64 levels] h (.ret (AV.bool res)) h:=c129n F F n levels res hm h
def m84 (F:Nat) (n:Node):Option Bool:=
 ((m128 F n 400).bind fun y1=>
 bif decide (y1≤400) then
 (m129 F n 24).bind fun y2=>
 some (y2)
 else
 some (false)).bind fun p3=>
 some p3
theorem c84 (F:Nat) (n:Node) (res:Bool) (hm:m84 F n = some res) (h:List ABlk):ACall Tryz.prog 84 [AV.agg (n.cells)] h (.ret (AV.bool res)) h:=by
 unfold m84 at hm
 refine ACall.mir 0 Tryz.func84 rfl (.cons (.agg (Node.cells_apart _)) .nil) (nlst rfl) ?_ h
 show SX _ _ _ 10 _ _ _ _
 refine SX.seq (SX.rr rfl (SX.seq ?_))
 obtain ⟨p3,hj,hm⟩:=bindE hm
 refine SX.join ([(2,AV.bool p3)]) ([ABlk.row 0 5 [AV.agg (n.cells)]]) (SX.region ?_) ?_
 ·refine SOps.rn 1 rfl ?_
  obtain ⟨y1,hy1,hj⟩:=bindE hj
  refine SOps.call rfl rfl rfl rfl rfl (c128 F n 400 y1 hy1 _) rdNone (SOps.rn 1 rfl ?_)
  refine SOps.splitM rfl rfl rfl rdNone hj (fun hj=>?_) (fun hj=>?_)
  ·refine SOps.rn 1 rfl ?_
   obtain ⟨y2,hy2,hj⟩:=bindE hj
   refine SOps.call rfl rfl rfl rfl rfl (c129 F n 24 y2 hy2 _) rdNone (SOps.re rfl ?_)
   obtain rfl:=oj hj
   exact ⟨rfl,CutTo.sr rfl⟩
  ·refine SOps.re rfl ?_
   obtain rfl:=oj hj
   exact ⟨rfl,CutTo.sr rfl⟩
 refine SX.rt ?_
 obtain rfl:=oj hm
 exact RetQ.mk (vs:=[AV.bool p3]) rfl (.apart .bool)
def m96 (F:Nat) (sp:Spec) (l:List Param):Option Bool:=
 bif decide (8 < (l.length:Int)) then
 some false
 else
 (runs (fun (s1:Int)=>
 (bif decide (s1 < (l.length:Int)) then
 ((idx l s1).bind fun y4=>
 bif decide (y4.sort < 0) then
 some (true)
 else
 (idx l s1).bind fun y5=>
 some (decide ((sp.sorts.length:Int)≤y5.sort))).bind fun p6=>
 bif p6 then
 some (Out.ret false)
 else
 some (Out.next (w64 (s1 + 1)))
 else
 some (Out.exit (())):Option (Out (Int) (Unit) Bool))) F (0)).bind fun (o10:(Unit) ⊕ Bool)=>(match o10 with
 | .inl x8=>
 some true
 | .inr r11=>some r11)
theorem c96 (F:Nat) (sp:Spec) (l:List Param) (res:Bool) (hm:m96 F sp l = some res) (h:List ABlk):ACall Tryz.prog 96 [sp.av,AV.vw 2 (l.map Param.av)] h (.ret (AV.bool res)) h:=by
 unfold m96 at hm
 refine ACall.mir 0 Tryz.func96 rfl (.cons (Spec.apart _) (.cons (.vw (ApartL.map fun _ _=>(Param.apart _))) .nil)) (nlst rfl) ?_ h
 show SX _ _ _ 32 _ _ _ _
 refine SX.seq (SX.rr rfl ?_)
 refine SX.seq (SX.seq ?_)
 refine SX.rn 1 rfl (SOps.light rfl rfl (lightV_len (f:=Param.av) (xs:=l) rfl rfl Tryz.underlying163 rfl) rdNone (SOps.re rfl ?_))
 refine SX.condM rfl rfl hm (fun ht hm=>?_) (fun ht hm=>?_)
 ·refine SX.seq (SX.rr rfl (SX.rt ?_))
  obtain rfl:=oj hm
  exact RetQ.mk (vs:=[AV.bool false]) rfl (.apart .bool)
 ·refine SX.sk ?_
  refine SX.seq (SX.seq ?_)
  refine SX.rr rfl ?_
  obtain ⟨o10,ho10,hm⟩:=bindE hm
  refine SX.forget (al':=[(1,AV.vw 2 (l.map Param.av)),(2,AV.ptr 0 0 0 0),(5,AV.int .i64 0)]) (leA_of rfl) ?_
  refine SX.iter (fun (s1:Int) (g2:Unit)=>[(1,AV.vw 2 (l.map Param.av)),(2,AV.ptr 0 0 0 0),(5,AV.int .i64 s1)]) (fun (s1:Int) (g2:Unit)=>[ABlk.row 0 4 [sp.av]]) (fun (x8:Unit) (g9:Unit)=>[]) (fun (x8:Unit) (g9:Unit)=>[ABlk.row 0 4 [sp.av]]) (fun r al df h=>Ret Tryz.prog Tryz.f96 (AV.bool r) al df h) () ho10 rfl rfl ?_ ?_ ?_
  ·intro s1 g2 out3 hb
   refine SX.seq (SX.seq ?_)
   refine SX.rn 2 rfl (SOps.light rfl rfl (lightV_len (f:=Param.av) (xs:=l) rfl rfl Tryz.underlying163 rfl) rdNone (SOps.re rfl ?_))
   refine SX.condM rfl rfl hb (fun ht hb=>?_) (fun ht hb=>?_)
   ·refine SX.sk (SX.seq (SX.block (SX.seq ?_)))
    obtain ⟨p6,hj,hb⟩:=bindE hb
    refine SX.join ([(1,AV.vw 2 (l.map Param.av)),(2,AV.ptr 0 0 0 0),(5,AV.int .i64 s1),(31,AV.bool p6)]) ([ABlk.row 0 4 [sp.av]]) (SX.draw follows_mixed rfl rdNone ?_) ?_
    ·refine PO.rn 2 rfl ?_
     obtain ⟨y4,hy4,hj⟩:=bindE hj
     refine PO.light rfl rfl (lightV_idx (f:=Param.av) (xs:=l) rfl rfl Tryz.underlying163 rfl hy4) (PO.rn 3 rfl ?_)
     refine PO.splitM rfl rfl rfl hj (fun hj=>?_) (fun hj=>?_)
     ·refine PO.re rfl ?_
      obtain rfl:=oj hj
      exact ⟨rfl,CutTo.sr rfl⟩
     ·refine PO.rn 2 rfl ?_
      obtain ⟨y5,hy5,hj⟩:=bindE hj
      refine PO.light rfl rfl (lightV_idx (f:=Param.av) (xs:=l) rfl rfl Tryz.underlying163 rfl hy5) (PO.rn 4 rfl (PO.light rfl rfl (lightV_len (f:=Sort'.av) (xs:=sp.sorts) rfl rfl Tryz.underlying22 rfl) (PO.re rfl ?_)))
      obtain rfl:=oj hj
      exact ⟨rfl,CutTo.sr rfl⟩
    refine SX.condM rfl rfl hb (fun ht hb=>?_) (fun ht hb=>?_)
    ·refine SX.seq (SX.rr rfl (SX.rt ?_))
     exact eI _ (aI (ojs hb) (Ret.mk (vs:=[AV.bool false]) rfl (.apart .bool)))
    ·refine SX.sk (SX.rr rfl ?_)
     exact eI _ (eI () (aI (ojs hb) (CutTo.sr rfl)))
   ·refine SX.ex ?_
    exact aI rfl (eI _ (eI () (aI (ojs hb) (CutTo.sr rfl))))
  ·intro x8 g9 he
   subst he
   refine SX.seq (SX.rr rfl (SX.rt ?_))
   obtain rfl:=oj hm
   exact RetQ.mk (vs:=[AV.bool true]) rfl (.apart .bool)
  ·intro r al' df' h' hr hq
   subst hr
   obtain rfl:=oj hm
   exact hq
def m46 (F:Nat) (sp:Spec):Option Bool:=
 (bif decide (4 < (sp.sorts.length:Int)) then
 some (true)
 else
 bif decide (6 < (sp.fields.length:Int)) then
 some (true)
 else
 bif decide (8 < (sp.preds.length:Int)) then
 some (true)
 else
 some (decide (16 < (sp.facts.length:Int)))).bind fun p1=>
 bif p1 then
 some false
 else
 (runs (fun (s3:Int)=>
 (bif decide (s3 < (sp.fields.length:Int)) then
 (idx sp.fields s3).bind fun y6=>
 (bif decide ((y6.sorts.length:Int) < 1) then
 some (true)
 else
 some (decide (3 < (y6.sorts.length:Int)))).bind fun p7=>
 bif p7 then
 some (Out.ret false)
 else
 (runs (fun (s9:Int)=>
 (bif decide (s9 < (y6.sorts.length:Int)) then
 ((idx y6.sorts s9).bind fun y12=>
 bif decide (y12 < 0) then
 some (true)
 else
 (idx y6.sorts s9).bind fun y13=>
 some (decide ((sp.sorts.length:Int)≤y13))).bind fun p14=>
 bif p14 then
 some (Out.ret false)
 else
 some (Out.next (w64 (s9 + 1)))
 else
 some (Out.exit (())):Option (Out (Int) (Unit) Bool))) F (0)).bind fun (o18:(Unit) ⊕ Bool)=>(match o18 with
 | .inl x16=>
 some (Out.next (w64 (s3 + 1)))
 | .inr r19=>some (Out.ret r19))
 else
 some (Out.exit (())):Option (Out (Int) (Unit) Bool))) F (0)).bind fun (o22:(Unit) ⊕ Bool)=>(match o22 with
 | .inl x20=>
 (runs (fun (s23:Int)=>
 (bif decide (s23 < (sp.preds.length:Int)) then
 ((idx sp.preds s23).bind fun y26=>
 (m96 F sp y26.params).bind fun y27=>
 bif (!y27) then
 some (true)
 else
 (idx sp.preds s23).bind fun y28=>
 (m84 F y28.body).bind fun y29=>
 some ((!y29))).bind fun p30=>
 bif p30 then
 some (Out.ret false)
 else
 some (Out.next (w64 (s23 + 1)))
 else
 some (Out.exit (())):Option (Out (Int) (Unit) Bool))) F (0)).bind fun (o34:(Unit) ⊕ Bool)=>(match o34 with
 | .inl x32=>
 (runs (fun (s35:Int)=>
 (bif decide (s35 < (sp.facts.length:Int)) then
 (idx sp.facts s35).bind fun y38=>
 (m84 F y38.body).bind fun y39=>
 bif (!y39) then
 some (Out.ret false)
 else
 some (Out.next (w64 (s35 + 1)))
 else
 some (Out.exit (())):Option (Out (Int) (Unit) Bool))) F (0)).bind fun (o42:(Unit) ⊕ Bool)=>(match o42 with
 | .inl x40=>
 some true
 | .inr r43=>some r43)
 | .inr r44=>some r44)
 | .inr r45=>some r45)
theorem c46 (F:Nat) (sp:Spec) (res:Bool) (hm:m46 F sp = some res) (h:List ABlk):ACall Tryz.prog 46 [sp.av] h (.ret (AV.bool res)) h:=by
 unfold m46 at hm
 refine ACall.mir 0 Tryz.func46 rfl (.cons (Spec.apart _) .nil) (nlst rfl) ?_ h
 show SX _ _ _ 113 _ _ _ _
 refine SX.seq (SX.rr rfl ?_)
 refine SX.seq (SX.seq ?_)
 obtain ⟨p1,hj,hm⟩:=bindE hm
 refine SX.join ([(1,AV.ptr 0 0 0 0),(29,AV.bool p1)]) ([ABlk.row 0 4 [sp.av]]) (SX.region ?_) ?_
 ·refine SOps.rn 2 rfl (SOps.light rfl rfl (lightV_len (f:=Sort'.av) (xs:=sp.sorts) rfl rfl Tryz.underlying22 rfl) rdNone (SOps.rn 1 rfl ?_))
  refine SOps.splitM rfl rfl rfl rdNone hj (fun hj=>?_) (fun hj=>?_)
  ·refine SOps.re rfl ?_
   obtain rfl:=oj hj
   exact ⟨rfl,CutTo.sr rfl⟩
  ·refine SOps.rn 2 rfl (SOps.light rfl rfl (lightV_len (f:=Field.av) (xs:=sp.fields) rfl rfl Tryz.underlying23 rfl) rdNone (SOps.rn 2 rfl ?_))
   refine SOps.splitM rfl rfl rfl rdNone hj (fun hj=>?_) (fun hj=>?_)
   ·refine SOps.re rfl ?_
    obtain rfl:=oj hj
    exact ⟨rfl,CutTo.sr rfl⟩
   ·refine SOps.rn 2 rfl (SOps.light rfl rfl (lightV_len (f:=Pred.av) (xs:=sp.preds) rfl rfl Tryz.underlying24 rfl) rdNone (SOps.rn 2 rfl ?_))
    refine SOps.splitM rfl rfl rfl rdNone hj (fun hj=>?_) (fun hj=>?_)
    ·refine SOps.re rfl ?_
     obtain rfl:=oj hj
     exact ⟨rfl,CutTo.sr rfl⟩
    ·refine SOps.rn 2 rfl (SOps.light rfl rfl (lightV_len (f:=Fact.av) (xs:=sp.facts) rfl rfl Tryz.underlying25 rfl) rdNone (SOps.re rfl ?_))
     obtain rfl:=oj hj
     exact ⟨rfl,CutTo.sr rfl⟩
 refine SX.condM rfl rfl hm (fun ht hm=>?_) (fun ht hm=>?_)
 ·refine SX.seq (SX.rr rfl (SX.rt ?_))
  obtain rfl:=oj hm
  exact RetQ.mk (vs:=[AV.bool false]) rfl (.apart .bool)
 ·refine SX.sk ?_
  refine SX.seq (SX.seq ?_)
  refine SX.rr rfl ?_
  obtain ⟨o22,ho22,hm⟩:=bindE hm
  refine SX.forget (al':=[(1,AV.ptr 0 0 0 0),(3,AV.int .i64 0)]) (leA_of rfl) ?_
  refine SX.iter (fun (s3:Int) (g4:Unit)=>[(1,AV.ptr 0 0 0 0),(3,AV.int .i64 s3)]) (fun (s3:Int) (g4:Unit)=>[ABlk.row 0 4 [sp.av]]) (fun (x20:Unit) (g21:Unit)=>[(1,AV.ptr 0 0 0 0)]) (fun (x20:Unit) (g21:Unit)=>[ABlk.row 0 4 [sp.av]]) (fun r al df h=>Ret Tryz.prog Tryz.f46 (AV.bool r) al df h) () ho22 rfl rfl ?_ ?_ ?_
  ·intro s3 g4 out5 hb
   refine SX.seq (SX.seq ?_)
   refine SX.rn 3 rfl (SOps.light rfl rfl (lightV_len (f:=Field.av) (xs:=sp.fields) rfl rfl Tryz.underlying23 rfl) rdNone (SOps.re rfl ?_))
   refine SX.condM rfl rfl hb (fun ht hb=>?_) (fun ht hb=>?_)
   ·refine SX.sk (SX.seq (SX.block (SX.seq (SX.rn 3 rfl ?_))))
    obtain ⟨y6,hy6,hb⟩:=bindE hb
    refine SOps.light rfl rfl (lightV_idx (f:=Field.av) (xs:=sp.fields) rfl rfl Tryz.underlying23 rfl hy6) rdNone (SOps.re rfl ?_)
    refine SX.seq (SX.seq ?_)
    obtain ⟨p7,hj,hb⟩:=bindE hb
    refine SX.join ([(1,AV.ptr 0 0 0 0),(3,AV.int .i64 s3),(4,AV.vw 1 (y6.sorts.map (AV.int .i64))),(50,AV.bool p7)]) ([ABlk.row 0 4 [sp.av]]) (SX.region ?_) ?_
    ·refine SOps.rn 1 rfl (SOps.light rfl rfl (lightV_len (f:=(AV.int .i64)) (xs:=y6.sorts) rfl rfl Tryz.underlying28 rfl) rdNone (SOps.rn 1 rfl ?_))
     refine SOps.splitM rfl rfl rfl rdNone hj (fun hj=>?_) (fun hj=>?_)
     ·refine SOps.re rfl ?_
      obtain rfl:=oj hj
      exact ⟨rfl,CutTo.sr rfl⟩
     ·refine SOps.rn 1 rfl (SOps.light rfl rfl (lightV_len (f:=(AV.int .i64)) (xs:=y6.sorts) rfl rfl Tryz.underlying28 rfl) rdNone (SOps.re rfl ?_))
      obtain rfl:=oj hj
      exact ⟨rfl,CutTo.sr rfl⟩
    refine SX.condM rfl rfl hb (fun ht hb=>?_) (fun ht hb=>?_)
    ·refine SX.seq (SX.rr rfl (SX.rt ?_))
     exact eI _ (aI (ojs hb) (Ret.mk (vs:=[AV.bool false]) rfl (.apart .bool)))
    ·refine SX.sk (SX.seq (SX.rr rfl ?_))
     obtain ⟨o18,ho18,hb⟩:=bindE hb
     refine SX.forget (al':=[(1,AV.ptr 0 0 0 0),(3,AV.int .i64 s3),(4,AV.vw 1 (y6.sorts.map (AV.int .i64))),(5,AV.int .i64 0)]) (leA_of rfl) ?_
     refine SX.iter (fun (s9:Int) (g10:Unit)=>[(1,AV.ptr 0 0 0 0),(3,AV.int .i64 s3),(4,AV.vw 1 (y6.sorts.map (AV.int .i64))),(5,AV.int .i64 s9)]) (fun (s9:Int) (g10:Unit)=>[ABlk.row 0 4 [sp.av]]) (fun (x16:Unit) (g17:Unit)=>[(1,AV.ptr 0 0 0 0),(3,AV.int .i64 s3)]) (fun (x16:Unit) (g17:Unit)=>[ABlk.row 0 4 [sp.av]]) (fun r al df h=>Ret Tryz.prog Tryz.f46 (AV.bool r) al df h) () ho18 rfl rfl ?_ ?_ ?_
     ·intro s9 g10 out11 hb
      refine SX.seq (SX.seq ?_)
      refine SX.rn 2 rfl (SOps.light rfl rfl (lightV_len (f:=(AV.int .i64)) (xs:=y6.sorts) rfl rfl Tryz.underlying28 rfl) rdNone (SOps.re rfl ?_))
      refine SX.condM rfl rfl hb (fun ht hb=>?_) (fun ht hb=>?_)
      ·refine SX.sk (SX.seq (SX.block (SX.seq ?_)))
       obtain ⟨p14,hj,hb⟩:=bindE hb
       refine SX.join ([(1,AV.ptr 0 0 0 0),(3,AV.int .i64 s3),(4,AV.vw 1 (y6.sorts.map (AV.int .i64))),(5,AV.int .i64 s9),(71,AV.bool p14)]) ([ABlk.row 0 4 [sp.av]]) (SX.draw follows_mixed rfl rdNone ?_) ?_
       ·refine PO.rn 2 rfl ?_
        obtain ⟨y12,hy12,hj⟩:=bindE hj
        refine PO.light rfl rfl (lightV_idx (f:=(AV.int .i64)) (xs:=y6.sorts) rfl rfl Tryz.underlying28 rfl hy12) (PO.rn 2 rfl ?_)
        refine PO.splitM rfl rfl rfl hj (fun hj=>?_) (fun hj=>?_)
        ·refine PO.re rfl ?_
         obtain rfl:=oj hj
         exact ⟨rfl,CutTo.sr rfl⟩
        ·refine PO.rn 2 rfl ?_
         obtain ⟨y13,hy13,hj⟩:=bindE hj
         refine PO.light rfl rfl (lightV_idx (f:=(AV.int .i64)) (xs:=y6.sorts) rfl rfl Tryz.underlying28 rfl hy13) (PO.rn 3 rfl (PO.light rfl rfl (lightV_len (f:=Sort'.av) (xs:=sp.sorts) rfl rfl Tryz.underlying22 rfl) (PO.re rfl ?_)))
         obtain rfl:=oj hj
         exact ⟨rfl,CutTo.sr rfl⟩
       refine SX.condM rfl rfl hb (fun ht hb=>?_) (fun ht hb=>?_)
       ·refine SX.seq (SX.rr rfl (SX.rt ?_))
        exact eI _ (aI (ojs hb) (Ret.mk (vs:=[AV.bool false]) rfl (.apart .bool)))
       ·refine SX.sk (SX.rr rfl ?_)
        exact eI _ (eI () (aI (ojs hb) (CutTo.sr rfl)))
      ·refine SX.ex ?_
       exact aI rfl (eI _ (eI () (aI (ojs hb) (CutTo.sr rfl))))
     ·intro x16 g17 he
      subst he
      refine SX.rr rfl ?_
      exact eI _ (eI () (aI (ojs hb) (CutTo.sr rfl)))
     ·intro r al' df' h' hr hq
      subst hr
      exact eI _ (aI (ojs hb) hq)
   ·refine SX.ex ?_
    exact aI rfl (eI _ (eI () (aI (ojs hb) (CutTo.sr rfl))))
  ·intro x20 g21 he
   subst he
   refine SX.seq (SX.seq ?_)
   refine SX.rr rfl ?_
   obtain ⟨o34,ho34,hm⟩:=bindE hm
   refine SX.forget (al':=[(1,AV.ptr 0 0 0 0),(6,AV.int .i64 0)]) (leA_of rfl) ?_
   refine SX.iter (fun (s23:Int) (g24:Unit)=>[(1,AV.ptr 0 0 0 0),(6,AV.int .i64 s23)]) (fun (s23:Int) (g24:Unit)=>[ABlk.row 0 4 [sp.av]]) (fun (x32:Unit) (g33:Unit)=>[(1,AV.ptr 0 0 0 0)]) (fun (x32:Unit) (g33:Unit)=>[ABlk.row 0 4 [sp.av]]) (fun r al df h=>Ret Tryz.prog Tryz.f46 (AV.bool r) al df h) () ho34 rfl rfl ?_ ?_ ?_
   ·intro s23 g24 out25 hb
    refine SX.seq (SX.seq ?_)
    refine SX.rn 3 rfl (SOps.light rfl rfl (lightV_len (f:=Pred.av) (xs:=sp.preds) rfl rfl Tryz.underlying24 rfl) rdNone (SOps.re rfl ?_))
    refine SX.condM rfl rfl hb (fun ht hb=>?_) (fun ht hb=>?_)
    ·refine SX.sk (SX.seq (SX.block (SX.seq ?_)))
     obtain ⟨p30,hj,hb⟩:=bindE hb
     refine SX.join ([(1,AV.ptr 0 0 0 0),(6,AV.int .i64 s23),(97,AV.bool p30)]) ([ABlk.row 0 4 [sp.av]]) (SX.draw follows_mixed rfl rdNone ?_) ?_
     ·refine PO.rn 4 rfl ?_
      obtain ⟨y26,hy26,hj⟩:=bindE hj
      refine PO.light rfl rfl (lightV_idx (f:=Pred.av) (xs:=sp.preds) rfl rfl Tryz.underlying24 rfl hy26) (PO.rn 2 rfl ?_)
      obtain ⟨y27,hy27,hj⟩:=bindE hj
      refine PO.call rfl rfl rfl rfl rfl (c96 F sp y26.params y27 hy27 _) (PO.rn 1 rfl ?_)
      refine PO.splitM rfl rfl rfl hj (fun hj=>?_) (fun hj=>?_)
      ·refine PO.re rfl ?_
       obtain rfl:=oj hj
       exact ⟨rfl,CutTo.sr rfl⟩
      ·refine PO.rn 3 rfl ?_
       obtain ⟨y28,hy28,hj⟩:=bindE hj
       refine PO.light rfl rfl (lightV_idx (f:=Pred.av) (xs:=sp.preds) rfl rfl Tryz.underlying24 rfl hy28) (PO.rn 2 rfl ?_)
       obtain ⟨y29,hy29,hj⟩:=bindE hj
       refine PO.call rfl rfl rfl rfl rfl (c84 F y28.body y29 hy29 _) (PO.re rfl ?_)
       obtain rfl:=oj hj
       exact ⟨rfl,CutTo.sr rfl⟩
     refine SX.condM rfl rfl hb (fun ht hb=>?_) (fun ht hb=>?_)
     ·refine SX.seq (SX.rr rfl (SX.rt ?_))
      exact eI _ (aI (ojs hb) (Ret.mk (vs:=[AV.bool false]) rfl (.apart .bool)))
     ·refine SX.sk (SX.rr rfl ?_)
      exact eI _ (eI () (aI (ojs hb) (CutTo.sr rfl)))
    ·refine SX.ex ?_
     exact aI rfl (eI _ (eI () (aI (ojs hb) (CutTo.sr rfl))))
   ·intro x32 g33 he
    subst he
    refine SX.seq (SX.seq ?_)
    refine SX.rr rfl ?_
    obtain ⟨o42,ho42,hm⟩:=bindE hm
    refine SX.forget (al':=[(1,AV.ptr 0 0 0 0),(7,AV.int .i64 0)]) (leA_of rfl) ?_
    refine SX.iter (fun (s35:Int) (g36:Unit)=>[(1,AV.ptr 0 0 0 0),(7,AV.int .i64 s35)]) (fun (s35:Int) (g36:Unit)=>[ABlk.row 0 4 [sp.av]]) (fun (x40:Unit) (g41:Unit)=>[]) (fun (x40:Unit) (g41:Unit)=>[ABlk.row 0 4 [sp.av]]) (fun r al df h=>Ret Tryz.prog Tryz.f46 (AV.bool r) al df h) () ho42 rfl rfl ?_ ?_ ?_
    ·intro s35 g36 out37 hb
     refine SX.seq (SX.seq ?_)
     refine SX.rn 3 rfl (SOps.light rfl rfl (lightV_len (f:=Fact.av) (xs:=sp.facts) rfl rfl Tryz.underlying25 rfl) rdNone (SOps.re rfl ?_))
     refine SX.condM rfl rfl hb (fun ht hb=>?_) (fun ht hb=>?_)
     ·refine SX.sk (SX.seq (SX.block (SX.seq (SX.rn 3 rfl ?_))))
      obtain ⟨y38,hy38,hb⟩:=bindE hb
      refine SOps.light rfl rfl (lightV_idx (f:=Fact.av) (xs:=sp.facts) rfl rfl Tryz.underlying25 rfl hy38) rdNone (SOps.rn 2 rfl ?_)
      obtain ⟨y39,hy39,hb⟩:=bindE hb
      refine SOps.call rfl rfl rfl rfl rfl (c84 F y38.body y39 hy39 _) rdNone (SOps.re rfl ?_)
      refine SX.condM rfl rfl hb (fun ht hb=>?_) (fun ht hb=>?_)
      ·refine SX.seq (SX.rr rfl (SX.rt ?_))
       exact eI _ (aI (ojs hb) (Ret.mk (vs:=[AV.bool false]) rfl (.apart .bool)))
      ·refine SX.sk (SX.rr rfl ?_)
       exact eI _ (eI () (aI (ojs hb) (CutTo.sr rfl)))
     ·refine SX.ex ?_
      exact aI rfl (eI _ (eI () (aI (ojs hb) (CutTo.sr rfl))))
    ·intro x40 g41 he
     subst he
     refine SX.seq (SX.rr rfl (SX.rt ?_))
     obtain rfl:=oj hm
     exact RetQ.mk (vs:=[AV.bool true]) rfl (.apart .bool)
    ·intro r al' df' h' hr hq
     subst hr
     obtain rfl:=oj hm
     exact hq
   ·intro r al' df' h' hr hq
    subst hr
    obtain rfl:=oj hm
    exact hq
  ·intro r al' df' h' hr hq
   subst hr
   obtain rfl:=oj hm
   exact hq
def m151 (F:Nat) (a:List Int) (b:List Int):Option Bool:=
 bif ((a.length:Int) != (b.length:Int)) then
 some false
 else
 (runs (fun (s1:Int)=>
 (bif decide (s1 < (a.length:Int)) then
 (idx a s1).bind fun y4=>
 (idx b s1).bind fun y5=>
 bif (y4 != y5) then
 some (Out.ret false)
 else
 some (Out.next (w64 (s1 + 1)))
 else
 some (Out.exit (())):Option (Out (Int) (Unit) Bool))) F (0)).bind fun (o8:(Unit) ⊕ Bool)=>(match o8 with
 | .inl x6=>
 some true
 | .inr r9=>some r9)
theorem c151 (F:Nat) (a:List Int) (b:List Int) (res:Bool) (hm:m151 F a b = some res) (h:List ABlk):ACall Tryz.prog 151 [AV.vw 1 (a.map (AV.int .i64)),AV.vw 1 (b.map (AV.int .i64))] h (.ret (AV.bool res)) h:=by
 unfold m151 at hm
 refine ACall.mir 0 Tryz.func151 rfl (.cons (.vw (ApartL.map fun _ _=>.int)) (.cons (.vw (ApartL.map fun _ _=>.int)) .nil)) (nlst rfl) ?_ h
 show SX _ _ _ 26 _ _ _ _
 refine SX.seq (SX.rr rfl ?_)
 refine SX.seq (SX.seq ?_)
 refine SX.rn 1 rfl (SOps.light rfl rfl (lightV_len (f:=(AV.int .i64)) (xs:=a) rfl rfl Tryz.underlying28 rfl) rdNone (SOps.rn 1 rfl (SOps.light rfl rfl (lightV_len (f:=(AV.int .i64)) (xs:=b) rfl rfl Tryz.underlying28 rfl) rdNone (SOps.re rfl ?_))))
 refine SX.condM rfl rfl hm (fun ht hm=>?_) (fun ht hm=>?_)
 ·refine SX.seq (SX.rr rfl (SX.rt ?_))
  obtain rfl:=oj hm
  exact RetQ.mk (vs:=[AV.bool false]) rfl (.apart .bool)
 ·refine SX.sk ?_
  refine SX.seq (SX.seq ?_)
  refine SX.rr rfl ?_
  obtain ⟨o8,ho8,hm⟩:=bindE hm
  refine SX.forget (al':=[(0,AV.vw 1 (a.map (AV.int .i64))),(1,AV.vw 1 (b.map (AV.int .i64))),(5,AV.int .i64 0)]) (leA_of rfl) ?_
  refine SX.iter (fun (s1:Int) (g2:Unit)=>[(0,AV.vw 1 (a.map (AV.int .i64))),(1,AV.vw 1 (b.map (AV.int .i64))),(5,AV.int .i64 s1)]) (fun (s1:Int) (g2:Unit)=>[]) (fun (x6:Unit) (g7:Unit)=>[]) (fun (x6:Unit) (g7:Unit)=>[]) (fun r al df h=>Ret Tryz.prog Tryz.f151 (AV.bool r) al df h) () ho8 rfl rfl ?_ ?_ ?_
  ·intro s1 g2 out3 hb
   refine SX.seq (SX.seq ?_)
   refine SX.rn 2 rfl (SOps.light rfl rfl (lightV_len (f:=(AV.int .i64)) (xs:=a) rfl rfl Tryz.underlying28 rfl) rdNone (SOps.re rfl ?_))
   refine SX.condM rfl rfl hb (fun ht hb=>?_) (fun ht hb=>?_)
   ·refine SX.sk (SX.seq (SX.block (SX.seq (SX.draw follows_mixed rfl rdNone (PO.rn 2 rfl ?_)))))
    obtain ⟨y4,hy4,hb⟩:=bindE hb
    refine PO.light rfl rfl (lightV_idx (f:=(AV.int .i64)) (xs:=a) rfl rfl Tryz.underlying28 rfl hy4) (PO.rn 3 rfl ?_)
    obtain ⟨y5,hy5,hb⟩:=bindE hb
    refine PO.light rfl rfl (lightV_idx (f:=(AV.int .i64)) (xs:=b) rfl rfl Tryz.underlying28 rfl hy5) (PO.re rfl ?_)
    refine SX.condM rfl rfl hb (fun ht hb=>?_) (fun ht hb=>?_)
    ·refine SX.seq (SX.rr rfl (SX.rt ?_))
     exact eI _ (aI (ojs hb) (Ret.mk (vs:=[AV.bool false]) rfl (.apart .bool)))
    ·refine SX.sk (SX.rr rfl ?_)
     exact eI _ (eI () (aI (ojs hb) (CutTo.sr rfl)))
   ·refine SX.ex ?_
    exact aI rfl (eI _ (eI () (aI (ojs hb) (CutTo.sr rfl))))
  ·intro x6 g7 he
   subst he
   refine SX.seq (SX.rr rfl (SX.rt ?_))
   obtain rfl:=oj hm
   exact RetQ.mk (vs:=[AV.bool true]) rfl (.apart .bool)
  ·intro r al' df' h' hr hq
   subst hr
   obtain rfl:=oj hm
   exact hq
def m152 (F:Nat) (sp:Spec) (calls:Int) (name_2:ByteArray):Option Int:=
 (runs (fun (s1:Int)=>
 ((bif decide (s1 < calls) then
 some (decide (s1 < (sp.preds.length:Int)))
 else
 some (false)).bind fun p4=>
 bif p4 then
 (idx sp.preds s1).bind fun y6=>
 bif (y6.name.toList == name_2.toList) then
 some (Out.ret s1)
 else
 some (Out.next (w64 (s1 + 1)))
 else
 some (Out.exit (())):Option (Out (Int) (Unit) Int))) F (0)).bind fun (o9:(Unit) ⊕ Int)=>(match o9 with
 | .inl x7=>
 some ((-1))
 | .inr r10=>some r10)
theorem c152 (F:Nat) (sp:Spec) (calls:Int) (name_2:ByteArray) (res:Int) (hm:m152 F sp calls name_2 = some res) (h:List ABlk):ACall Tryz.prog 152 [sp.av,AV.int .i64 calls,AV.str name_2] h (.ret (AV.int .i64 res)) h:=by
 unfold m152 at hm
 refine ACall.mir 0 Tryz.func152 rfl (.cons (Spec.apart _) (.cons .int (.cons .str .nil))) (nlst rfl) ?_ h
 show SX _ _ _ 29 _ _ _ _
 refine SX.seq (SX.rr rfl ?_)
 refine SX.seq (SX.seq ?_)
 refine SX.rr rfl ?_
 obtain ⟨o9,ho9,hm⟩:=bindE hm
 refine SX.forget (al':=[(1,AV.int .i64 calls),(2,AV.str name_2),(3,AV.ptr 0 0 0 0),(7,AV.int .i64 0)]) (leA_of rfl) ?_
 refine SX.iter (fun (s1:Int) (g2:Unit)=>[(1,AV.int .i64 calls),(2,AV.str name_2),(3,AV.ptr 0 0 0 0),(7,AV.int .i64 s1)]) (fun (s1:Int) (g2:Unit)=>[ABlk.row 0 4 [sp.av]]) (fun (x7:Unit) (g8:Unit)=>[]) (fun (x7:Unit) (g8:Unit)=>[ABlk.row 0 4 [sp.av]]) (fun r al df h=>Ret Tryz.prog Tryz.f152 (AV.int .i64 r) al df h) () ho9 rfl rfl ?_ ?_ ?_
 ·intro s1 g2 out3 hb
  refine SX.seq (SX.seq ?_)
  obtain ⟨p4,hj,hb⟩:=bindE hb
  refine SX.join ([(1,AV.int .i64 calls),(2,AV.str name_2),(3,AV.ptr 0 0 0 0),(7,AV.int .i64 s1),(17,AV.bool p4)]) ([ABlk.row 0 4 [sp.av]]) (SX.region ?_) ?_
  ·refine SOps.rn 3 rfl ?_
   refine SOps.splitM rfl rfl rfl rdNone hj (fun hj=>?_) (fun hj=>?_)
   ·refine SOps.rn 3 rfl (SOps.light rfl rfl (lightV_len (f:=Pred.av) (xs:=sp.preds) rfl rfl Tryz.underlying24 rfl) rdNone (SOps.re rfl ?_))
    obtain rfl:=oj hj
    exact ⟨rfl,CutTo.sr rfl⟩
   ·refine SOps.re rfl ?_
    obtain rfl:=oj hj
    exact ⟨rfl,CutTo.sr rfl⟩
  refine SX.condM rfl rfl hb (fun ht hb=>?_) (fun ht hb=>?_)
  ·refine SX.sk (SX.seq (SX.block (SX.seq (SX.rn 3 rfl ?_))))
   obtain ⟨y6,hy6,hb⟩:=bindE hb
   refine SOps.light rfl rfl (lightV_idx (f:=Pred.av) (xs:=sp.preds) rfl rfl Tryz.underlying24 rfl hy6) rdNone (SOps.re rfl ?_)
   refine SX.condM rfl rfl hb (fun ht hb=>?_) (fun ht hb=>?_)
   ·refine SX.seq (SX.rr rfl (SX.rt ?_))
    exact eI _ (aI (ojs hb) (Ret.mk (vs:=[AV.int .i64 s1]) rfl (.apart .int)))
   ·refine SX.sk (SX.rr rfl ?_)
    exact eI _ (eI () (aI (ojs hb) (CutTo.sr rfl)))
  ·refine SX.ex ?_
   exact aI rfl (eI _ (eI () (aI (ojs hb) (CutTo.sr rfl))))
 ·intro x7 g8 he
  subst he
  refine SX.seq (SX.rr rfl (SX.rt ?_))
  obtain rfl:=oj hm
  exact RetQ.mk (vs:=[AV.int .i64 ((-1))]) rfl (.apart .int)
 ·intro r al' df' h' hr hq
  subst hr
  obtain rfl:=oj hm
  exact hq
def m97 (F:Nat) (sp:Spec):Option (List Diag):=
 (runs (fun (s1:Int×List Diag)=>
 (bif decide (s1.1 < (sp.sorts.length:Int)) then
 (runs (fun (s4:Bool×Int)=>
 (bif decide (s4.2 < s1.1) then
 (bif s4.1 then
 some (true)
 else
 (idx sp.sorts s4.2).bind fun y7=>
 (idx sp.sorts s1.1).bind fun y8=>
 some ((y7.name.toList == y8.name.toList))).bind fun p9=>
 some (Out.next (p9,w64 (s4.2 + 1)))
 else
 some (Out.exit (s4.1)):Option (Out (Bool×Int) (Bool) (List Diag)))) F (false,0)).bind fun (o13:(Bool) ⊕ (List Diag))=>(match o13 with
 | .inl x11=>
 bif x11 then
 (app s1.2 ([(Diag.mk 41 0)])).bind fun y14=>
 some (Out.next (w64 (s1.1 + 1),y14))
 else
 some (Out.next (w64 (s1.1 + 1),s1.2))
 | .inr r16=>some (Out.ret r16))
 else
 some (Out.exit (s1.2)):Option (Out (Int×List Diag) (List Diag) (List Diag)))) F (0,[])).bind fun (o19:(List Diag) ⊕ (List Diag))=>(match o19 with
 | .inl x17=>
 (runs (fun (s20:Int×List Diag)=>
 (bif decide (s20.1 < (sp.fields.length:Int)) then
 (runs (fun (s23:Bool×Int)=>
 (bif decide (s23.2 < s20.1) then
 (bif s23.1 then
 some (true)
 else
 (idx sp.fields s23.2).bind fun y26=>
 (idx sp.fields s20.1).bind fun y27=>
 bif (y26.name.toList == y27.name.toList) then
 (idx sp.fields s23.2).bind fun y28=>
 (idx sp.fields s20.1).bind fun y29=>
 (m151 F y28.sorts y29.sorts).bind fun y30=>
 some (y30)
 else
 some (false)).bind fun p31=>
 some (Out.next (p31,w64 (s23.2 + 1)))
 else
 some (Out.exit (s23.1)):Option (Out (Bool×Int) (Bool) (List Diag)))) F (false,0)).bind fun (o35:(Bool) ⊕ (List Diag))=>(match o35 with
 | .inl x33=>
 bif x33 then
 (app s20.2 ([(Diag.mk 41 0)])).bind fun y36=>
 some (Out.next (w64 (s20.1 + 1),y36))
 else
 some (Out.next (w64 (s20.1 + 1),s20.2))
 | .inr r38=>some (Out.ret r38))
 else
 some (Out.exit (s20.2)):Option (Out (Int×List Diag) (List Diag) (List Diag)))) F (0,x17)).bind fun (o41:(List Diag) ⊕ (List Diag))=>(match o41 with
 | .inl x39=>
 some x39
 | .inr r42=>some r42)
 | .inr r43=>some r43)
theorem c97 (F:Nat) (sp:Spec) (res:(List Diag)) (hm:m97 F sp = some res) (h:List ABlk):ACall Tryz.prog 97 [sp.av] h (.ret (AV.vw 2 (res.map Diag.av))) h:=by
 unfold m97 at hm
 refine ACall.mir 1 Tryz.func97 rfl (.cons (Spec.apart _) .nil) (nlst rfl) ?_ h
 show SX _ _ _ 92 _ _ _ _
 refine SX.seq (SX.rr rfl (SX.seq (SX.rr rfl ?_)))
 refine SX.seq (SX.seq ?_)
 refine SX.rr rfl ?_
 obtain ⟨o19,ho19,hm⟩:=bindE hm
 refine SX.forget (al':=[(1,AV.ptr 1 0 0 0),(3,osl 0 0 (([]).map Diag.av)),(4,AV.int .i64 0)]) (leA_of rfl) ?_
 refine SX.iter (fun (s1:Int×List Diag) (g2:Nat)=>[(1,AV.ptr 1 0 0 0),(3,osl 0 g2 (s1.2.map Diag.av)),(4,AV.int .i64 s1.1)]) (fun (s1:Int×List Diag) (g2:Nat)=>[oblk 2 g2 (s1.2.map Diag.av),ABlk.row 0 4 [sp.av]]) (fun (x17:List Diag) (g18:Nat)=>[(1,AV.ptr 1 0 0 0),(3,osl 0 g18 (x17.map Diag.av))]) (fun (x17:List Diag) (g18:Nat)=>[oblk 2 g18 (x17.map Diag.av),ABlk.row 0 4 [sp.av]]) (fun r al df h=>Ret Tryz.prog Tryz.f97 (AV.vw 2 (r.map Diag.av)) al df h) (0) ho19 rfl rfl ?_ ?_ ?_
 ·intro s1 g2 out3 hb
  refine SX.seq (SX.seq ?_)
  refine SX.rn 3 rfl (SOps.light rfl rfl (lightV_len (f:=Sort'.av) (xs:=sp.sorts) rfl rfl Tryz.underlying22 rfl) rdNone (SOps.re rfl ?_))
  refine SX.condM rfl rfl hb (fun ht hb=>?_) (fun ht hb=>?_)
  ·refine SX.sk (SX.seq (SX.block (SX.seq (SX.rr rfl ?_))))
   refine SX.seq (SX.seq ?_)
   refine SX.rr rfl ?_
   obtain ⟨o13,ho13,hb⟩:=bindE hb
   refine SX.forget (al':=[(1,AV.ptr 1 0 0 0),(3,osl 0 g2 (s1.2.map Diag.av)),(4,AV.int .i64 s1.1),(5,AV.bool false),(6,AV.int .i64 0)]) (leA_of rfl) ?_
   refine SX.iter (fun (s4:Bool×Int) (g5:Unit)=>[(1,AV.ptr 1 0 0 0),(3,osl 0 g2 (s1.2.map Diag.av)),(4,AV.int .i64 s1.1),(5,AV.bool s4.1),(6,AV.int .i64 s4.2)]) (fun (s4:Bool×Int) (g5:Unit)=>[oblk 2 g2 (s1.2.map Diag.av),ABlk.row 0 4 [sp.av]]) (fun (x11:Bool) (g12:Unit)=>[(1,AV.ptr 1 0 0 0),(3,osl 0 g2 (s1.2.map Diag.av)),(4,AV.int .i64 s1.1),(5,AV.bool x11)]) (fun (x11:Bool) (g12:Unit)=>[oblk 2 g2 (s1.2.map Diag.av),ABlk.row 0 4 [sp.av]]) (fun r al df h=>Ret Tryz.prog Tryz.f97 (AV.vw 2 (r.map Diag.av)) al df h) () ho13 rfl rfl ?_ ?_ ?_
   ·intro s4 g5 out6 hb
    refine SX.seq (SX.seq ?_)
    refine SX.rr rfl ?_
    refine SX.condM rfl rfl hb (fun ht hb=>?_) (fun ht hb=>?_)
    ·refine SX.sk (SX.seq (SX.block ?_))
     obtain ⟨p9,hj,hb⟩:=bindE hb
     refine SX.join ([(1,AV.ptr 1 0 0 0),(3,osl 0 g2 (s1.2.map Diag.av)),(4,AV.int .i64 s1.1),(6,AV.int .i64 s4.2),(5,AV.bool p9)]) ([oblk 2 g2 (s1.2.map Diag.av),ABlk.row 0 4 [sp.av]]) (SX.draw follows_mixed rfl rdNone ?_) ?_
     ·refine PO.rn 1 rfl ?_
      refine PO.splitM rfl rfl rfl hj (fun hj=>?_) (fun hj=>?_)
      ·refine PO.re rfl ?_
       obtain rfl:=oj hj
       exact ⟨rfl,CutTo.sr rfl⟩
      ·refine PO.rn 3 rfl ?_
       obtain ⟨y7,hy7,hj⟩:=bindE hj
       refine PO.light rfl rfl (lightV_idx (f:=Sort'.av) (xs:=sp.sorts) rfl rfl Tryz.underlying22 rfl hy7) (PO.rn 5 rfl ?_)
       obtain ⟨y8,hy8,hj⟩:=bindE hj
       refine PO.light rfl rfl (lightV_idx (f:=Sort'.av) (xs:=sp.sorts) rfl rfl Tryz.underlying22 rfl hy8) (PO.re rfl ?_)
       obtain rfl:=oj hj
       exact ⟨rfl,CutTo.sr rfl⟩
     refine SX.rr rfl ?_
     exact eI _ (eI () (aI (ojs hb) (CutTo.sr rfl)))
    ·refine SX.ex ?_
     exact aI rfl (eI _ (eI () (aI (ojs hb) (CutTo.sr rfl))))
   ·intro x11 g12 he
    subst he
    refine SX.seq (SX.rr rfl ?_)
    refine SX.condM rfl rfl hb (fun ht hb=>?_) (fun ht hb=>?_)
    ·refine SX.rn 3 rfl ?_
     obtain ⟨y14,hy14,hb⟩:=bindE hb
     refine SOps.growM (f:=Diag.av) (xs:=s1.2) (ys:=[(Diag.mk 41 0)]) (b:=0) (g:=g2) rfl rfl rfl rfl rfl rfl rfl rfl rfl (fun _=>rfl) rfl hy14 fun g15=>(SOps.re rfl (SX.rr rfl ?_))
     exact eI _ (eI (g15) (aI (ojs hb) (CutTo.sr rfl)))
    ·refine SX.sk (SX.rr rfl ?_)
     exact eI _ (eI (g2) (aI (ojs hb) (CutTo.sr rfl)))
   ·intro r al' df' h' hr hq
    subst hr
    exact eI _ (aI (ojs hb) hq)
  ·refine SX.ex ?_
   exact aI rfl (eI _ (eI (g2) (aI (ojs hb) (CutTo.sr rfl))))
 ·intro x17 g18 he
  subst he
  refine SX.seq (SX.seq ?_)
  refine SX.rr rfl ?_
  obtain ⟨o41,ho41,hm⟩:=bindE hm
  refine SX.forget (al':=[(1,AV.ptr 1 0 0 0),(3,osl 0 g18 (x17.map Diag.av)),(7,AV.int .i64 0)]) (leA_of rfl) ?_
  refine SX.iter (fun (s20:Int×List Diag) (g21:Nat)=>[(1,AV.ptr 1 0 0 0),(3,osl 0 g21 (s20.2.map Diag.av)),(7,AV.int .i64 s20.1)]) (fun (s20:Int×List Diag) (g21:Nat)=>[oblk 2 g21 (s20.2.map Diag.av),ABlk.row 0 4 [sp.av]]) (fun (x39:List Diag) (g40:Nat)=>[(3,osl 0 g40 (x39.map Diag.av))]) (fun (x39:List Diag) (g40:Nat)=>[oblk 2 g40 (x39.map Diag.av),ABlk.row 0 4 [sp.av]]) (fun r al df h=>Ret Tryz.prog Tryz.f97 (AV.vw 2 (r.map Diag.av)) al df h) (g18) ho41 rfl rfl ?_ ?_ ?_
  ·intro s20 g21 out22 hb
   refine SX.seq (SX.seq ?_)
   refine SX.rn 3 rfl (SOps.light rfl rfl (lightV_len (f:=Field.av) (xs:=sp.fields) rfl rfl Tryz.underlying23 rfl) rdNone (SOps.re rfl ?_))
   refine SX.condM rfl rfl hb (fun ht hb=>?_) (fun ht hb=>?_)
   ·refine SX.sk (SX.seq (SX.block (SX.seq (SX.rr rfl ?_))))
    refine SX.seq (SX.seq ?_)
    refine SX.rr rfl ?_
    obtain ⟨o35,ho35,hb⟩:=bindE hb
    refine SX.forget (al':=[(1,AV.ptr 1 0 0 0),(3,osl 0 g21 (s20.2.map Diag.av)),(7,AV.int .i64 s20.1),(8,AV.bool false),(9,AV.int .i64 0)]) (leA_of rfl) ?_
    refine SX.iter (fun (s23:Bool×Int) (g24:Unit)=>[(1,AV.ptr 1 0 0 0),(3,osl 0 g21 (s20.2.map Diag.av)),(7,AV.int .i64 s20.1),(8,AV.bool s23.1),(9,AV.int .i64 s23.2)]) (fun (s23:Bool×Int) (g24:Unit)=>[oblk 2 g21 (s20.2.map Diag.av),ABlk.row 0 4 [sp.av]]) (fun (x33:Bool) (g34:Unit)=>[(1,AV.ptr 1 0 0 0),(3,osl 0 g21 (s20.2.map Diag.av)),(7,AV.int .i64 s20.1),(8,AV.bool x33)]) (fun (x33:Bool) (g34:Unit)=>[oblk 2 g21 (s20.2.map Diag.av),ABlk.row 0 4 [sp.av]]) (fun r al df h=>Ret Tryz.prog Tryz.f97 (AV.vw 2 (r.map Diag.av)) al df h) () ho35 rfl rfl ?_ ?_ ?_
    ·intro s23 g24 out25 hb
     refine SX.seq (SX.seq ?_)
     refine SX.rr rfl ?_
     refine SX.condM rfl rfl hb (fun ht hb=>?_) (fun ht hb=>?_)
     ·refine SX.sk (SX.seq (SX.block ?_))
      obtain ⟨p31,hj,hb⟩:=bindE hb
      refine SX.join ([(1,AV.ptr 1 0 0 0),(3,osl 0 g21 (s20.2.map Diag.av)),(7,AV.int .i64 s20.1),(9,AV.int .i64 s23.2),(8,AV.bool p31)]) ([oblk 2 g21 (s20.2.map Diag.av),ABlk.row 0 4 [sp.av]]) (SX.draw follows_mixed rfl rdNone ?_) ?_
      ·refine PO.rn 1 rfl ?_
       refine PO.splitM rfl rfl rfl hj (fun hj=>?_) (fun hj=>?_)
       ·refine PO.re rfl ?_
        obtain rfl:=oj hj
        exact ⟨rfl,CutTo.sr rfl⟩
       ·refine PO.rn 3 rfl ?_
        obtain ⟨y26,hy26,hj⟩:=bindE hj
        refine PO.light rfl rfl (lightV_idx (f:=Field.av) (xs:=sp.fields) rfl rfl Tryz.underlying23 rfl hy26) (PO.rn 5 rfl ?_)
        obtain ⟨y27,hy27,hj⟩:=bindE hj
        refine PO.light rfl rfl (lightV_idx (f:=Field.av) (xs:=sp.fields) rfl rfl Tryz.underlying23 rfl hy27) (PO.rn 3 rfl ?_)
        refine PO.splitM rfl rfl rfl hj (fun hj=>?_) (fun hj=>?_)
        ·refine PO.rn 3 rfl ?_
         obtain ⟨y28,hy28,hj⟩:=bindE hj
         refine PO.light rfl rfl (lightV_idx (f:=Field.av) (xs:=sp.fields) rfl rfl Tryz.underlying23 rfl hy28) (PO.rn 5 rfl ?_)
         obtain ⟨y29,hy29,hj⟩:=bindE hj
         refine PO.light rfl rfl (lightV_idx (f:=Field.av) (xs:=sp.fields) rfl rfl Tryz.underlying23 rfl hy29) (PO.rn 2 rfl ?_)
         obtain ⟨y30,hy30,hj⟩:=bindE hj
         refine PO.call rfl rfl rfl rfl rfl (c151 F y28.sorts y29.sorts y30 hy30 _) (PO.re rfl ?_)
         obtain rfl:=oj hj
         exact ⟨rfl,CutTo.sr rfl⟩
        ·refine PO.re rfl ?_
         obtain rfl:=oj hj
         exact ⟨rfl,CutTo.sr rfl⟩
      refine SX.rr rfl ?_
      exact eI _ (eI () (aI (ojs hb) (CutTo.sr rfl)))
     ·refine SX.ex ?_
      exact aI rfl (eI _ (eI () (aI (ojs hb) (CutTo.sr rfl))))
    ·intro x33 g34 he
     subst he
     refine SX.seq (SX.rr rfl ?_)
     refine SX.condM rfl rfl hb (fun ht hb=>?_) (fun ht hb=>?_)
     ·refine SX.rn 3 rfl ?_
      obtain ⟨y36,hy36,hb⟩:=bindE hb
      refine SOps.growM (f:=Diag.av) (xs:=s20.2) (ys:=[(Diag.mk 41 0)]) (b:=0) (g:=g21) rfl rfl rfl rfl rfl rfl rfl rfl rfl (fun _=>rfl) rfl hy36 fun g37=>(SOps.re rfl (SX.rr rfl ?_))
      exact eI _ (eI (g37) (aI (ojs hb) (CutTo.sr rfl)))
     ·refine SX.sk (SX.rr rfl ?_)
      exact eI _ (eI (g21) (aI (ojs hb) (CutTo.sr rfl)))
    ·intro r al' df' h' hr hq
     subst hr
     exact eI _ (aI (ojs hb) hq)
   ·refine SX.ex ?_
    exact aI rfl (eI _ (eI (g21) (aI (ojs hb) (CutTo.sr rfl))))
  ·intro x39 g40 he
   subst he
   refine SX.seq (SX.rr rfl (SX.rt ?_))
   obtain rfl:=oj hm
   exact RetQ.mk (vs:=[osl 0 g40 (x39.map Diag.av)]) rfl (frozen_osl rfl (ApartL.map fun _ _=>(Diag.apart _)))
  ·intro r al' df' h' hr hq
   subst hr
   obtain rfl:=oj hm
   exact hq
 ·intro r al' df' h' hr hq
  subst hr
  obtain rfl:=oj hm
  exact hq
def m221 (F:Nat) (n:Node):Option Bool:=
 some (decide (30≤n.op))
theorem c221 (F:Nat) (n:Node) (res:Bool) (hm:m221 F n = some res) (h:List ABlk):ACall Tryz.prog 221 [AV.agg (n.cells)] h (.ret (AV.bool res)) h:=by
 unfold m221 at hm
 refine ACall.mir 0 Tryz.func221 rfl (.cons (.agg (Node.cells_apart _)) .nil) (nlst rfl) ?_ h
 show SX _ _ _ 6 _ _ _ _
 refine SX.seq (SX.rr rfl (SX.seq (SX.rr rfl (SX.rt ?_))))
 obtain rfl:=oj hm
 exact RetQ.mk (vs:=[AV.bool (decide (30≤n.op))]) rfl (.apart .bool)
def m282 (F:Nat) (op:Int):Option Bool:=
 (bif (op == 5) then
 some (true)
 else
 bif decide (48≤op) then
 some (decide (op≤51))
 else
 some (false)).bind fun p1=>
 some p1
theorem c282 (F:Nat) (op:Int) (res:Bool) (hm:m282 F op = some res) (h:List ABlk):ACall Tryz.prog 282 [AV.int .i64 op] h (.ret (AV.bool res)) h:=by
 unfold m282 at hm
 refine ACall.mir 0 Tryz.func282 rfl (.cons .int .nil) (nlst rfl) ?_ h
 show SX _ _ _ 13 _ _ _ _
 refine SX.seq (SX.rr rfl (SX.seq ?_))
 obtain ⟨p1,hj,hm⟩:=bindE hm
 refine SX.join ([(2,AV.bool p1)]) ([]) (SX.region ?_) ?_
 ·refine SOps.rn 2 rfl ?_
  refine SOps.splitM rfl rfl rfl rdNone hj (fun hj=>?_) (fun hj=>?_)
  ·refine SOps.re rfl ?_
   obtain rfl:=oj hj
   exact ⟨rfl,CutTo.sr rfl⟩
  ·refine SOps.rn 2 rfl ?_
   refine SOps.splitM rfl rfl rfl rdNone hj (fun hj=>?_) (fun hj=>?_)
   ·refine SOps.re rfl ?_
    obtain rfl:=oj hj
    exact ⟨rfl,CutTo.sr rfl⟩
   ·refine SOps.re rfl ?_
    obtain rfl:=oj hj
    exact ⟨rfl,CutTo.sr rfl⟩
 refine SX.rt ?_
 obtain rfl:=oj hm
 exact RetQ.mk (vs:=[AV.bool p1]) rfl (.apart .bool)
end Go.AL
namespace Go.AL
open Go
set_option maxRecDepth 4000
abbrev Tot {α:Type} (f:Nat→Option α):Prop:=Ev (fun _=>True) f
theorem e128:∀ (k:Nat) (n:Node),nsz n≤k→nsz n≤LIM→∀ (left:Int) (d:Nat),Tot (fun F=>m128n F (F - d) n left):=by
 intro k
 induction k with
 | zero=>intro n h; have:=nsz_pos n; omega
 | succ k ih=>
  intro n hk hl left d
  refine Ev.congr (d + 1) (g:=fun F=>m128p F (m128n F (F - (d + 1))) n left) (fun F hF=>?_) ?_
  ·obtain ⟨j,rfl⟩:∃ j,F = d + 1 + j:=⟨F - (d + 1),by omega⟩
   rw [show d + 1 + j - d = j + 1 by omega,show d + 1 + j - (d + 1) = j by omega]
   rfl
  have hlen:=nsz_len n
  simp only [LIM] at hl
  unfold m128p
  refine Ev.bindS TT TT ?_ (fun _ _=>Ev.pure trivial) (fun _ _=>Ev.pure trivial)
  ·refine Ev.loop (T:=Int) n.kids.length (fun i t=>(t,(i:Int))) (fun _ _=>True) rfl trivial (fun i t hi _=>?_) (fun t _=>?_)
   ·refine Ev.bind (P:=fun _=>True) (Ev.dec (fun _=>Ev.pure trivial) (fun _=>Ev.pure trivial)) (fun p _=>?_)
    refine Ev.ite (fun _=>?_) (fun _=>Ev.pure trivial)
    refine Ev.bind (Ev.idxN hi) (fun y hy=>?_)
    have:=nsz_kid (List.mem_of_getElem? hy)
    refine Ev.bind (ih y (by omega) (by simp only [LIM]; omega) _ (d + 1)) (fun z _=>?_)
    exact Ev.pure ⟨_,by rw [w64_succ (by omega)],trivial⟩
   ·refine Ev.bind (P:=fun b=>b = false) (Ev.df (by simp) (Ev.pure rfl)) (fun p hp=>?_)
    exact Ev.if hp (Ev.pure trivial)
theorem e290 (s:ByteArray):Tot (fun F=>m290 F s):=by
 unfold m290
 refine Ev.bindS TT TT (Ev.each (n:=lits290_5.length) (by decide) TT trivial (fun i hi _=>?_) (fun _=>trivial)) (fun _ _=>Ev.pure trivial) (fun _ _=>Ev.pure trivial)
 refine Ev.bind (Ev.idxN hi) (fun y _=>?_)
 exact Ev.ite (fun _=>Ev.pure trivial) (fun _=>Ev.pure ⟨rfl,trivial⟩)
theorem e240 (s:ByteArray) (hs:s.size≤LIM):Tot (fun F=>m240 F s):=by
 simp only [LIM] at hs
 unfold m240
 refine Ev.bind (P:=fun _=>True) ?_ (fun p _=>?_)
 ·refine Ev.ite (fun _=>Ev.pure trivial) (fun _=>Ev.ite (fun _=>Ev.pure trivial) (fun _=>?_))
  exact Ev.bind (e290 s) (fun _ _=>Ev.pure trivial)
 refine Ev.ite (fun _=>Ev.pure trivial) (fun _=>?_)
 refine Ev.bindS TT TT (Ev.each (n:=s.size) (by omega) TT trivial (fun i hi _=>?_) (fun _=>trivial)) (fun _ _=>Ev.pure trivial) (fun _ _=>Ev.pure trivial)
 refine Ev.bind (Ev.sidx (by omega) (by omega)) (fun y _=>?_)
 refine Ev.bind (P:=fun _=>True) ?_ (fun p _=>?_)
 ·repeat' first | exact Ev.pure trivial | refine Ev.ite (fun _=>?_) (fun _=>?_)
 refine Ev.bind (P:=fun _=>True) ?_ (fun p _=>?_)
 ·repeat' first | exact Ev.pure trivial | refine Ev.ite (fun _=>?_) (fun _=>?_)
 exact Ev.ite (fun _=>Ev.pure trivial) (fun _=>Ev.pure ⟨rfl,trivial⟩)
theorem e182 (n:Node) (hn:nsz n≤LIM):Ev (fun r=>r = true→n.op = 2→1≤n.n∧n.n≤3) (fun F=>m182 F n):=by
 have hs:n.name.size≤LIM:=by rw [nsz_eq] at hn; omega
 unfold m182
 refine Ev.bind (P:=fun _=>True) ?_ (fun p _=>?_)
 ·repeat' first | exact Ev.pure trivial | refine Ev.ite (fun _=>?_) (fun _=>?_)
 refine Ev.bind (P:=fun _=>True) ?_ (fun q _=>?_)
 ·refine Ev.bind (e240 _ hs) (fun y _=>?_)
  repeat' first | exact Ev.pure trivial | refine Ev.ite (fun _=>?_) (fun _=>?_)
 refine Ev.ite (fun _=>Ev.pure (fun h=>by cases h)) (fun _=>?_)
 refine Ev.ite (fun h2=>?_) (fun h2=>?_)
 ·refine Ev.bind (P:=fun r=>r = true→1≤n.n∧n.n≤3) ?_ (fun r hr=>Ev.pure (fun h _=>hr h))
  exact Ev.dec (fun h1=>Ev.pure (fun h=>⟨h1,of_decide_eq_true h⟩)) (fun _=>Ev.pure (fun h=>by cases h))
 ·refine Ev.ite (fun _=>?_) (fun _=>Ev.pure (fun _ h=>?_))
  ·refine Ev.bind (P:=fun _=>True) ?_ (fun r _=>Ev.pure (fun _ h=>?_))
   ·repeat' first | exact Ev.pure trivial | refine Ev.ite (fun _=>?_) (fun _=>?_)
   ·rw [h] at h2; cases h2
  ·rw [h] at h2; cases h2
def shapeOf (op:Int):Option ByteArray:=
 bif op == 5 || op == 11 || op == 12 || op == 13 then some (ByteArray.mk #[101]) else
 bif op == 6 || op == 7 || op == 8 || op == 9 || op == 10 || op == 14 || op == 32 || op == 33 then some (ByteArray.mk #[101,101]) else
 bif op == 15 || op == 45 || op == 46 then some (ByteArray.mk #[101,102]) else none
theorem e241 (op kids:Int) (h0:0≤kids) (hk:kids≤1048576):Ev (fun r=>r.2 = true→∀ s,shapeOf op = some s→r.1 = s) (fun F=>m241 F op kids):=by
 unfold m241
 refine Ev.bind (P:=fun p=>p = true→op = 1 ∨ op = 2 ∨ op = 3 ∨ op = 4 ∨ op = 20 ∨ op = 30 ∨ op = 31) ?_ (fun p hp=>?_)
 ·repeat' first | refine Ev.ite (fun h=>Ev.pure (fun _=>?_)) (fun h=>?_) | refine Ev.pure (fun h=>?_)
  all_goals (simp only [beq_iff_eq] at h; omega)
 refine Ev.ite (fun h=>Ev.pure (fun _ s hs=>?_)) (fun _=>?_)
 ·rcases hp h with rfl | rfl | rfl | rfl | rfl | rfl | rfl <;> cases hs
 refine Ev.bind (P:=fun p=>p = true→op = 5 ∨ op = 11 ∨ op = 12 ∨ op = 13 ∨ op = 21 ∨ op = 34 ∨ op = 35 ∨ op = 36 ∨ op = 37) ?_ (fun p hp=>?_)
 ·repeat' first | refine Ev.ite (fun h=>Ev.pure (fun _=>?_)) (fun h=>?_) | refine Ev.pure (fun h=>?_)
  all_goals (simp only [beq_iff_eq] at h; omega)
 refine Ev.ite (fun h=>Ev.pure (fun _ s hs=>?_)) (fun _=>?_)
 ·rcases hp h with rfl | rfl | rfl | rfl | rfl | rfl | rfl | rfl | rfl <;> cases hs <;> rfl
 refine Ev.bind (P:=fun p=>p = true→op = 6 ∨ op = 7 ∨ op = 8 ∨ op = 9 ∨ op = 10 ∨ op = 14 ∨ op = 32 ∨ op = 33) ?_ (fun p hp=>?_)
 ·repeat' first | refine Ev.ite (fun h=>Ev.pure (fun _=>?_)) (fun h=>?_) | refine Ev.pure (fun h=>?_)
  all_goals (simp only [beq_iff_eq] at h; omega)
 refine Ev.ite (fun h=>Ev.pure (fun _ s hs=>?_)) (fun _=>?_)
 ·rcases hp h with rfl | rfl | rfl | rfl | rfl | rfl | rfl | rfl <;> cases hs <;> rfl
 refine Ev.bind (P:=fun p=>p = true→op = 15 ∨ op = 45 ∨ op = 46) ?_ (fun p hp=>?_)
 ·repeat' first | refine Ev.ite (fun h=>Ev.pure (fun _=>?_)) (fun h=>?_) | refine Ev.pure (fun h=>?_)
  all_goals (simp only [beq_iff_eq] at h; omega)
 refine Ev.ite (fun h=>Ev.pure (fun _ s hs=>?_)) (fun _=>?_)
 ·rcases hp h with rfl | rfl | rfl <;> cases hs <;> rfl
 refine Ev.bind (P:=fun p=>p = true→op = 22 ∨ op = 23 ∨ op = 38 ∨ op = 39) ?_ (fun p hp=>?_)
 ·repeat' first | refine Ev.ite (fun h=>Ev.pure (fun _=>?_)) (fun h=>?_) | refine Ev.pure (fun h=>?_)
  all_goals (simp only [beq_iff_eq] at h; omega)
 refine Ev.ite (fun h=>Ev.pure (fun _ s hs=>?_)) (fun _=>?_)
 ·rcases hp h with rfl | rfl | rfl | rfl <;> cases hs
 refine Ev.bind (P:=fun p=>p = true→op = 40 ∨ op = 48 ∨ op = 49 ∨ op = 50) ?_ (fun p hp=>?_)
 ·repeat' first | refine Ev.ite (fun h=>Ev.pure (fun _=>?_)) (fun h=>?_) | refine Ev.pure (fun h=>?_)
  all_goals (simp only [beq_iff_eq] at h; omega)
 refine Ev.ite (fun h=>Ev.pure (fun _ s hs=>?_)) (fun _=>?_)
 ·rcases hp h with rfl | rfl | rfl | rfl <;> cases hs
 refine Ev.bind (P:=fun p=>p = true→op = 41 ∨ op = 42 ∨ op = 43 ∨ op = 44 ∨ op = 51) ?_ (fun p hp=>?_)
 ·repeat' first | refine Ev.ite (fun h=>Ev.pure (fun _=>?_)) (fun h=>?_) | refine Ev.pure (fun h=>?_)
  all_goals (simp only [beq_iff_eq] at h; omega)
 refine Ev.ite (fun h=>Ev.pure (fun _ s hs=>?_)) (fun _=>?_)
 ·rcases hp h with rfl | rfl | rfl | rfl | rfl <;> cases hs
 refine Ev.ite (fun h=>?_) (fun _=>Ev.pure (fun h=>by cases h))
 obtain rfl:op = 47:=by simpa using h
 obtain ⟨n,rfl⟩:∃ n:Nat,kids = n:=⟨kids.toNat,by omega⟩
 refine Ev.bindS TT TT ?_ (fun _ _=>Ev.pure (fun _ s hs=>by cases hs)) (fun _ _=>Ev.pure (fun _ s hs=>by cases hs))
 refine Ev.loop (T:=ByteArray) n (fun i t=>(t,(i:Int))) (fun i t=>t.size = i) rfl rfl (fun i t hi ht=>?_) (fun t _=>Ev.df (Int.lt_irrefl _) (Ev.pure trivial))
 refine Ev.dt (Int.ofNat_lt.2 hi) (Ev.bind (Ev.sadd (show t.size + 1 < _ by omega)) (fun z hz=>Ev.pure ⟨z,by rw [w64_succ (by omega)],?_⟩))
 rw [hz,ByteArray.size_append,ht]
 rfl
theorem e242 (op:Int):Ev (fun r=>r = 101→1≤op∧op≤15) (fun F=>m242 F op):=by
 unfold m242
 refine Ev.bind (P:=fun p=>p = true→1≤op∧op≤15) (Ev.dec (fun h=>Ev.pure (fun h2=>⟨h,of_decide_eq_true h2⟩)) (fun _=>Ev.pure (fun h=>by cases h))) (fun p hp=>?_)
 refine Ev.ite (fun h=>Ev.pure (fun _=>hp h)) (fun _=>?_)
 refine Ev.bind (P:=TT) (Ev.dec (fun _=>Ev.pure trivial) (fun _=>Ev.pure trivial)) (fun p _=>?_)
 refine Ev.ite (fun h=>Ev.pure (fun h=>by cases h)) (fun _=>?_)
 refine Ev.bind (P:=TT) (Ev.dec (fun _=>Ev.pure trivial) (fun _=>Ev.pure trivial)) (fun p _=>?_)
 exact Ev.ite (fun h=>Ev.pure (fun h=>by cases h)) (fun _=>Ev.pure (fun h=>by cases h))
def isE (n:Node):Prop:=1≤n.op∧n.op≤15
theorem Ev.sidxE {s:ByteArray} {i:Nat} (h1:i < s.size):Ev (fun r=>r = (s[i].toNat:Int)) (fun _=>Go.AL.sidx s i):=by
 refine ⟨(s[i].toNat:Int),rfl,0,fun _ _=>?_⟩
 have:decide ((i:Int) < 0) = false:=decide_eq_false (by omega)
 simp [Go.AL.sidx,this,h1]
theorem e183 (op:Int) (kids:List Node) (hk:kids.length≤1048576):Ev (fun r=>r = true→∀ s,shapeOf op = some s→kids.length = s.size∧∀ i k,kids[i]? = some k→∀ h:i < s.size,s[i] = 101→isE k) (fun F=>m183 F op kids):=by
 unfold m183
 refine Ev.bind (e241 op kids.length (by omega) (by omega)) (fun y hy=>?_)
 refine Ev.bind (P:=fun p=>p = false→y.2 = true∧y.1.size = kids.length) ?_ (fun p hp=>?_)
 ·refine Ev.ite (fun h=>Ev.pure (fun h=>by cases h)) (fun h=>Ev.pure (fun h2=>⟨by simpa using h,?_⟩))
  simp at h2; omega
 refine Ev.ite (fun _=>Ev.pure (fun h=>by cases h)) (fun hpf=>?_)
 obtain ⟨h1,h2⟩:=hp hpf
 refine Ev.bindS (fun _=>∀ i k,kids[i]? = some k→∀ h:i < y.1.size,y.1[i] = 101→isE k) (fun r=>r = false) ?_ (fun x hx=>Ev.pure (fun _ s hs=>?_)) (fun r hr=>Ev.pure (fun h=>by rw [hr] at h; cases h))
 ·refine Ev.each (n:=kids.length) (by omega) (fun i=>∀ j,j < i→∀ k,kids[j]? = some k→∀ h:j < y.1.size,y.1[j] = 101→isE k) (fun j hj=>by omega) (fun i hi hA=>?_) (fun hA i k hk=>hA i (List.getElem?_eq_some_iff.1 hk).1 k hk)
  refine Ev.bind (Ev.idxN hi) (fun z hz=>?_)
  refine Ev.bind (e242 z.op) (fun c hc=>?_)
  refine Ev.bind (Ev.sidxE (i:=i) (by omega)) (fun d hd=>?_)
  refine Ev.ite (fun _=>Ev.pure rfl) (fun h=>Ev.pure ⟨rfl,fun j hj k hk h3 h4=>?_⟩)
  by_cases hji:j = i
  ·subst hji
   rw [hz] at hk; cases hk
   refine hc ?_
   simp only [bne_eq_false_iff_eq] at h
   rw [h,hd,h4]
   rfl
  ·exact hA j (by omega) k hk h3 h4
 ·have:=hy h1 s hs
  subst this
  exact ⟨h2.symm,hx⟩
structure KOk (n:Node):Prop where
 one:(n.op = 5 ∨ n.op = 11 ∨ n.op = 12 ∨ n.op = 13)→∃ a,n.kids = [a]∧isE a
 two:(n.op = 6 ∨ n.op = 7 ∨ n.op = 8 ∨ n.op = 9 ∨ n.op = 10 ∨ n.op = 14 ∨ n.op = 32 ∨ n.op = 33)→∃ a b,n.kids = [a,b]∧isE a∧isE b
 ef:(n.op = 15 ∨ n.op = 45 ∨ n.op = 46)→∃ a b,n.kids = [a,b]∧isE a
theorem KOk.of {n:Node} (h:∀ s,shapeOf n.op = some s→n.kids.length = s.size∧∀ i k,n.kids[i]? = some k→∀ h:i < s.size,s[i] = 101→isE k):KOk n:=by
 refine ⟨fun ho=>?_,fun ho=>?_,fun ho=>?_⟩
 ·have hs:shapeOf n.op = some (ByteArray.mk #[101]):=by rcases ho with h | h | h | h <;> rw [h] <;> rfl
  obtain ⟨h1,h2⟩:=h _ hs
  match hk:n.kids,h1 with
  | [a],_=>exact ⟨a,rfl,h2 0 a (by rw [hk]; rfl) (by decide) rfl⟩
 ·have hs:shapeOf n.op = some (ByteArray.mk #[101,101]):=by rcases ho with h | h | h | h | h | h | h | h <;> rw [h] <;> rfl
  obtain ⟨h1,h2⟩:=h _ hs
  match hk:n.kids,h1 with
  | [a,b],_=>exact ⟨a,b,rfl,h2 0 a (by rw [hk]; rfl) (by decide) rfl,h2 1 b (by rw [hk]; rfl) (by decide) rfl⟩
 ·have hs:shapeOf n.op = some (ByteArray.mk #[101,102]):=by rcases ho with h | h | h <;> rw [h] <;> rfl
  obtain ⟨h1,h2⟩:=h _ hs
  match hk:n.kids,h1 with
  | [a,b],_=>exact ⟨a,b,rfl,h2 0 a (by rw [hk]; rfl) (by decide) rfl⟩
inductive WFn:Node→Prop
 | mk {n:Node} (k:KOk n) (none:n.op = 2→1≤n.n∧n.n≤3) (kids:∀ k,k ∈ n.kids→WFn k):WFn n
theorem e129:∀ (k:Nat) (n:Node),nsz n≤k→nsz n≤LIM→∀ (levels:Int) (d:Nat),Ev (fun r=>r = true→WFn n) (fun F=>m129n F (F - d) n levels):=by
 intro k
 induction k with
 | zero=>intro n h; have:=nsz_pos n; omega
 | succ k ih=>
  intro n hk hl levels d
  refine Ev.congr (d + 1) (g:=fun F=>m129p F (m129n F (F - (d + 1))) n levels) (fun F hF=>?_) ?_
  ·obtain ⟨j,rfl⟩:∃ j,F = d + 1 + j:=⟨F - (d + 1),by omega⟩
   rw [show d + 1 + j - d = j + 1 by omega,show d + 1 + j - (d + 1) = j by omega]
   rfl
  have hlen:=nsz_len n
  have hl':=hl
  simp only [LIM] at hl'
  unfold m129p
  refine Ev.bind (P:=fun p=>p = false→KOk n∧(n.op = 2→1≤n.n∧n.n≤3)) ?_ (fun p hp=>?_)
  ·refine Ev.ite (fun _=>Ev.pure (fun h=>by cases h)) (fun _=>?_)
   refine Ev.bind (e182 n hl) (fun y hy=>?_)
   refine Ev.ite (fun _=>Ev.pure (fun h=>by cases h)) (fun hyt=>?_)
   refine Ev.bind (e183 n.op n.kids (by omega)) (fun z hz=>Ev.pure (fun h=>⟨KOk.of (hz (by simpa using h)),hy (by simpa using hyt)⟩))
  refine Ev.ite (fun _=>Ev.pure (fun h=>by cases h)) (fun hpf=>?_)
  obtain ⟨h1,h2⟩:=hp hpf
  refine Ev.bindS (fun _=>∀ k,k ∈ n.kids→WFn k) (fun r=>r = false) ?_ (fun x hx=>Ev.pure (fun _=>.mk h1 h2 hx)) (fun r hr=>Ev.pure (fun h=>by rw [hr] at h; cases h))
  refine Ev.each (n:=n.kids.length) (by omega) (fun i=>∀ j,j < i→∀ k,n.kids[j]? = some k→WFn k) (fun j hj=>by omega) (fun i hi hA=>?_) (fun hA k hk=>?_)
  ·refine Ev.bind (Ev.idxN hi) (fun z hz=>?_)
   have:=nsz_kid (List.mem_of_getElem? hz)
   refine Ev.bind (ih z (by omega) (by omega) _ (d + 1)) (fun r hr=>?_)
   refine Ev.ite (fun _=>Ev.pure rfl) (fun h=>Ev.pure ⟨rfl,fun j hj k hk=>?_⟩)
   by_cases hji:j = i
   ·subst hji
    rw [hz] at hk; cases hk
    exact hr (by simpa using h)
   ·exact hA j (by omega) k hk
  ·obtain ⟨j,hj⟩:=List.mem_iff_getElem?.1 hk
   exact hA j (List.getElem?_eq_some_iff.1 hj).1 k hj
theorem e84 (n:Node) (h:nsz n≤LIM):Ev (fun r=>r = true→WFn n) (fun F=>m84 F n):=by
 unfold m84
 refine Ev.bind (P:=fun r=>r = true→WFn n) ?_ (fun r hr=>Ev.pure hr)
 refine Ev.bind (e128 _ n (Nat.le_refl _) h 400 0) (fun y _=>?_)
 exact Ev.dec (fun _=>Ev.bind (e129 _ n (Nat.le_refl _) h 24 0) (fun z hz=>Ev.pure hz)) (fun _=>Ev.pure (fun h=>by cases h))
structure SpSm (sp:Spec):Prop where
 sorts:sp.sorts.length≤LIM
 fields:sp.fields.length≤LIM
 preds:sp.preds.length≤LIM
 facts:sp.facts.length≤LIM
 sname:∀ s ∈ sp.sorts,s.name.size≤LIM
 fsorts:∀ f ∈ sp.fields,f.sorts.length≤LIM
 params:∀ p ∈ sp.preds,p.params.length≤LIM
 pbody:∀ p ∈ sp.preds,nsz p.body≤LIM
 fbody:∀ f ∈ sp.facts,nsz f.body≤LIM
structure SpOk (sp:Spec):Prop where
 sorts:sp.sorts.length≤4
 fields:sp.fields.length≤6
 preds:sp.preds.length≤8
 facts:sp.facts.length≤16
 fsorts:∀ f ∈ sp.fields,1≤f.sorts.length∧f.sorts.length≤3∧∀ s ∈ f.sorts,0≤s∧s < sp.sorts.length
 params:∀ p ∈ sp.preds,p.params.length≤8
 pbody:∀ p ∈ sp.preds,WFn p.body
 fbody:∀ f ∈ sp.facts,WFn f.body
theorem e96 (sp:Spec) (l:List Param) (hl:l.length≤LIM):Ev (fun r=>r = true→l.length≤8) (fun F=>m96 F sp l):=by
 simp only [LIM] at hl
 unfold m96
 refine Ev.dec (fun _=>Ev.pure (fun h=>by cases h)) (fun h8=>?_)
 refine Ev.bindS TT TT ?_ (fun _ _=>Ev.pure (fun _=>by omega)) (fun _ _=>Ev.pure (fun _=>by omega))
 refine Ev.each (n:=l.length) (by omega) TT trivial (fun i hi _=>?_) (fun _=>trivial)
 refine Ev.bind (P:=TT) ?_ (fun p _=>Ev.ite (fun _=>Ev.pure trivial) (fun _=>Ev.pure ⟨rfl,trivial⟩))
 refine Ev.bind (Ev.idxN hi) (fun z hz=>Ev.ite (fun _=>Ev.pure trivial) (fun _=>Ev.bind (Ev.idxN hi) (fun _ _=>Ev.pure trivial)))
theorem allOf {α:Type} {l:List α} {p:α→Prop} (h:∀ j,j < l.length→∀ k,l[j]? = some k→p k):∀ k ∈ l,p k:=fun k hk=>by
 obtain ⟨j,hj⟩:=List.mem_iff_getElem?.1 hk
 exact h j (List.getElem?_eq_some_iff.1 hj).1 k hj
theorem stepA {α:Type} {l:List α} {p:α→Prop} {i:Nat} {y:α} (hA:∀ j,j < i→∀ k,l[j]? = some k→p k) (hy:l[i]? = some y) (hp:p y):∀ j,j < i + 1→∀ k,l[j]? = some k→p k:=fun j hj k hk=>by
 by_cases hji:j = i
 ·subst hji; rw [hy] at hk; cases hk; exact hp
 ·exact hA j (by omega) k hk
theorem e46 (sp:Spec) (h:SpSm sp):Ev (fun r=>r = true→SpOk sp) (fun F=>m46 F sp):=by
 have b1:=h.sorts; have b2:=h.fields; have b3:=h.preds; have b4:=h.facts
 simp only [LIM] at b1 b2 b3 b4
 unfold m46
 refine Ev.bind (P:=fun p=>p = false→sp.sorts.length≤4∧sp.fields.length≤6∧sp.preds.length≤8∧sp.facts.length≤16) ?_ (fun p hp=>?_)
 ·refine Ev.dec (fun _=>Ev.pure (fun h=>by cases h)) (fun h1=>Ev.dec (fun _=>Ev.pure (fun h=>by cases h)) (fun h2=>Ev.dec (fun _=>Ev.pure (fun h=>by cases h)) (fun h3=>Ev.pure (fun h4=>?_))))
  have:=of_decide_eq_false h4
  omega
 refine Ev.ite (fun _=>Ev.pure (fun h=>by cases h)) (fun hpf=>?_)
 obtain ⟨c1,c2,c3,c4⟩:=hp hpf
 refine Ev.bindS (fun _=>∀ f ∈ sp.fields,1≤f.sorts.length∧f.sorts.length≤3∧∀ s ∈ f.sorts,0≤s∧s < sp.sorts.length) (fun r=>r = false) ?_ (fun _ d1=>?_) (fun r hr=>Ev.pure (fun h=>by rw [hr] at h; cases h))
 ·refine Ev.each (n:=sp.fields.length) (by omega) (fun i=>∀ j,j < i→∀ f,sp.fields[j]? = some f→1≤f.sorts.length∧f.sorts.length≤3∧∀ s ∈ f.sorts,0≤s∧s < sp.sorts.length) (fun j hj=>by omega) (fun i hi hA=>?_) allOf
  refine Ev.bind (Ev.idxN hi) (fun y hy=>?_)
  refine Ev.bind (P:=fun p=>p = false→1≤y.sorts.length∧y.sorts.length≤3) ?_ (fun p hp=>?_)
  ·refine Ev.dec (fun _=>Ev.pure (fun h=>by cases h)) (fun h1=>Ev.pure (fun h2=>?_))
   have:=of_decide_eq_false h2
   omega
  refine Ev.ite (fun _=>Ev.pure rfl) (fun hpf=>?_)
  obtain ⟨g1,g2⟩:=hp hpf
  refine Ev.bindS (fun _=>∀ s ∈ y.sorts,0≤s∧s < sp.sorts.length) (fun r=>r = false) ?_ (fun _ g3=>Ev.pure ⟨rfl,stepA hA hy ⟨g1,g2,g3⟩⟩) (fun r hr=>Ev.pure hr)
  refine Ev.each (n:=y.sorts.length) (by omega) (fun i=>∀ j,j < i→∀ s,y.sorts[j]? = some s→0≤s∧s < sp.sorts.length) (fun j hj=>by omega) (fun i hi hA=>?_) allOf
  refine Ev.bind (P:=fun p=>p = false→∃ s,y.sorts[i]? = some s∧0≤s∧s < sp.sorts.length) ?_ (fun p hp=>?_)
  ·refine Ev.bind (Ev.idxN hi) (fun s hs=>Ev.dec (fun _=>Ev.pure (fun h=>by cases h)) (fun h1=>Ev.bind (Ev.idxN hi) (fun s' hs'=>Ev.pure (fun h2=>?_))))
   rw [hs] at hs'; cases hs'
   have:=of_decide_eq_false h2
   exact ⟨s,hs,by omega,by omega⟩
  refine Ev.ite (fun _=>Ev.pure rfl) (fun hpf=>?_)
  obtain ⟨s,hs,q⟩:=hp hpf
  exact Ev.pure ⟨rfl,stepA hA hs q⟩
 refine Ev.bindS (fun _=>∀ p ∈ sp.preds,p.params.length≤8∧WFn p.body) (fun r=>r = false) ?_ (fun _ d2=>?_) (fun r hr=>Ev.pure (fun h=>by rw [hr] at h; cases h))
 ·refine Ev.each (n:=sp.preds.length) (by omega) (fun i=>∀ j,j < i→∀ p,sp.preds[j]? = some p→p.params.length≤8∧WFn p.body) (fun j hj=>by omega) (fun i hi hA=>?_) allOf
  refine Ev.bind (P:=fun p=>p = false→∃ y,sp.preds[i]? = some y∧y.params.length≤8∧WFn y.body) ?_ (fun p hp=>?_)
  ·refine Ev.bind (Ev.idxN hi) (fun y hy=>?_)
   have hm:=List.mem_of_getElem? hy
   refine Ev.bind (e96 sp y.params (h.params y hm)) (fun r hr=>?_)
   refine Ev.ite (fun _=>Ev.pure (fun h=>by cases h)) (fun hrt=>?_)
   refine Ev.bind (Ev.idxN hi) (fun y' hy'=>?_)
   rw [hy] at hy'; cases hy'
   exact Ev.bind (e84 y.body (h.pbody y hm)) (fun z hz=>Ev.pure (fun hzf=>⟨y,hy,hr (by simpa using hrt),hz (by simpa using hzf)⟩))
  refine Ev.ite (fun _=>Ev.pure rfl) (fun hpf=>?_)
  obtain ⟨s,hs,q⟩:=hp hpf
  exact Ev.pure ⟨rfl,stepA hA hs q⟩
 refine Ev.bindS (fun _=>∀ f ∈ sp.facts,WFn f.body) (fun r=>r = false) ?_ (fun _ d3=>Ev.pure (fun _=>⟨c1,c2,c3,c4,d1,fun p hp=>(d2 p hp).1,fun p hp=>(d2 p hp).2,d3⟩)) (fun r hr=>Ev.pure (fun h=>by rw [hr] at h; cases h))
 refine Ev.each (n:=sp.facts.length) (by omega) (fun i=>∀ j,j < i→∀ f,sp.facts[j]? = some f→WFn f.body) (fun j hj=>by omega) (fun i hi hA=>?_) allOf
 refine Ev.bind (Ev.idxN hi) (fun y hy=>?_)
 refine Ev.bind (e84 y.body (h.fbody y (List.mem_of_getElem? hy))) (fun z hz=>?_)
 exact Ev.ite (fun _=>Ev.pure rfl) (fun hzt=>Ev.pure ⟨rfl,stepA hA hy (hz (by simpa using hzt))⟩)
end Go.AL
