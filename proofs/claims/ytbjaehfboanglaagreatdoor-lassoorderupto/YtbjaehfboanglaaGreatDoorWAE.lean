/- Part 5 of 11 of the proof: the lemmas and contracts of T6 .. PTot2. -/
import Derived.Test.YtbjaehfboanglaaGreatDoorWAD
set_option linter.unusedVariables false
set_option linter.unusedSimpArgs false
namespace Go.AL
open Go Go.Proofs
set_option maxRecDepth 10000
def m243 (F:Nat) (sorts:List Int):Option Set':=
 (runs (fun (s1:Int×Int)=>
 (bif decide (s1.2 < (sorts.length:Int)) then
 (idx sorts s1.2).bind fun y4=>
 some (Out.next (w64 (w64 (4 * s1.1) + y4),w64 (s1.2 + 1)))
 else
 some (Out.exit (s1.1)):Option (Out (Int×Int) (Int) Set'))) F (0,0)).bind fun (o7:(Int) ⊕ Set')=>(match o7 with
 | .inl x5=>
 (bif decide (0≤x5) then
 some (decide (x5 < 64))
 else
 some (false)).bind fun p8=>
 (bif p8 then
 (inr x5 64).bind fun y10=>
 some ((Set'.upd ((Set'.mk ((sorts.length:Int)) fun _=>false)) y10 true))
 else
 some ((Set'.mk ((sorts.length:Int)) fun _=>false))).bind fun p11=>
 some p11
 | .inr r13=>some r13)
theorem c243 (F:Nat) (sorts:List Int) (res:Set') (hm:m243 F sorts = some res) (h:List ABlk):ACall Tryz.prog 243 [AV.vw 1 (sorts.map (AV.int .i64))] h (.ret (res.av)) h:=by
 unfold m243 at hm
 refine ACall.mir 0 Tryz.func243 rfl (.cons (.vw (ApartL.map fun _ _=>.int)) .nil) (nlst rfl) ?_ h
 show SX _ _ _ 32 _ _ _ _
 refine SX.seq (SX.rr rfl (SX.seq (SX.rn 1 rfl (SOps.light rfl rfl (lightV_len (f:=(AV.int .i64)) (xs:=sorts) rfl rfl Tryz.underlying28 rfl) rdNone (SOps.re rfl (SX.seq (SX.rr rfl ?_)))))))
 refine SX.seq (SX.seq ?_)
 refine SX.rr rfl ?_
 obtain ⟨o7,ho7,hm⟩:=bindE hm
 refine SX.forget (al':=[(0,AV.vw 1 (sorts.map (AV.int .i64))),(2,AV.ptr 0 0 0 0),(3,AV.ptr 1 0 0 0),(4,AV.int .i64 0),(5,AV.int .i64 0)]) (leA_of rfl) ?_
 refine SX.iter (fun (s1:Int×Int) (g2:Unit)=>[(0,AV.vw 1 (sorts.map (AV.int .i64))),(2,AV.ptr 0 0 0 0),(3,AV.ptr 1 0 0 0),(4,AV.int .i64 s1.1),(5,AV.int .i64 s1.2)]) (fun (s1:Int×Int) (g2:Unit)=>[ABlk.row 0 65 [e0],ABlk.row 0 65 [((Set'.mk ((sorts.length:Int)) fun _=>false)).av]]) (fun (x5:Int) (g6:Unit)=>[(2,AV.ptr 0 0 0 0),(3,AV.ptr 1 0 0 0),(4,AV.int .i64 x5)]) (fun (x5:Int) (g6:Unit)=>[ABlk.row 0 65 [e0],ABlk.row 0 65 [((Set'.mk ((sorts.length:Int)) fun _=>false)).av]]) (fun r al df h=>Ret Tryz.prog Tryz.f243 (r.av) al df h) () ho7 rfl rfl ?_ ?_ ?_
 ·intro s1 g2 out3 hb
  refine SX.seq (SX.seq ?_)
  refine SX.rn 2 rfl (SOps.light rfl rfl (lightV_len (f:=(AV.int .i64)) (xs:=sorts) rfl rfl Tryz.underlying28 rfl) rdNone (SOps.re rfl ?_))
  refine SX.condM rfl rfl hb (fun ht hb=>?_) (fun ht hb=>?_)
  ·refine SX.sk (SX.seq (SX.block (SX.rn 4 rfl ?_)))
   obtain ⟨y4,hy4,hb⟩:=bindE hb
   refine SOps.light rfl rfl (lightV_idx (f:=(AV.int .i64)) (xs:=sorts) rfl rfl Tryz.underlying28 rfl hy4) rdNone (SOps.re rfl (SX.rr rfl ?_))
   exact eI _ (eI () (aI (ojs hb) (CutTo.sr rfl)))
  ·refine SX.ex ?_
   exact aI rfl (eI _ (eI () (aI (ojs hb) (CutTo.sr rfl))))
 ·intro x5 g6 he
  subst he
  refine SX.seq (SX.seq ?_)
  obtain ⟨p8,hj,hm⟩:=bindE hm
  refine SX.join ([(2,AV.ptr 0 0 0 0),(3,AV.ptr 1 0 0 0),(4,AV.int .i64 x5),(27,AV.bool p8)]) ([ABlk.row 0 65 [e0],ABlk.row 0 65 [((Set'.mk ((sorts.length:Int)) fun _=>false)).av]]) (SX.region ?_) ?_
  ·refine SOps.rn 2 rfl ?_
   refine SOps.splitM rfl rfl rfl rdNone hj (fun hj=>?_) (fun hj=>?_)
   ·refine SOps.re rfl ?_
    obtain rfl:=oj hj
    exact ⟨rfl,CutTo.sr rfl⟩
   ·refine SOps.re rfl ?_
    obtain rfl:=oj hj
    exact ⟨rfl,CutTo.sr rfl⟩
  obtain ⟨p11,hj,hm⟩:=bindE hm
  refine SX.join ([(2,AV.ptr 0 0 0 0),(3,AV.ptr 1 0 0 0)]) ([ABlk.row 0 65 [e0],ABlk.row 0 65 [p11.av]]) (SX.condM rfl rfl hj (fun ht hj=>?_) (fun ht hj=>?_)) ?_
  ·refine SX.rn 2 rfl ?_
   obtain ⟨y10,hy10,hj⟩:=bindE hj
   refine SOps.light rfl rfl (lightV_idxA rfl rfl Tryz.underlying251 rfl rfl hy10) rdNone (SOps.heavy (v:=.poison) rfl rfl (heavyV_bit (s:=(Set'.mk ((sorts.length:Int)) fun _=>false)) rfl rfl rfl rfl hy10) rdNone (SOps.nil rdNone ?_))
   obtain rfl:=oj hj
   exact ⟨rfl,CutTo.sr rfl⟩
  ·refine SX.sk ?_
   obtain rfl:=oj hj
   exact ⟨rfl,CutTo.sr rfl⟩
  refine SX.seq (SX.rr rfl (SX.rt ?_))
  obtain rfl:=oj hm
  exact RetQ.mk (vs:=[p11.av]) rfl (.apart (Set'.apart _))
 ·intro r al' df' h' hr hq
  subst hr
  obtain rfl:=oj hm
  exact hq
def m325 (F:Nat) (a:Set') (b:Set'):Option Set':=
 (runs (fun (s1:Int×Set')=>
 (bif decide (s1.1 < 64) then
 ((inr s1.1 64).bind fun y4=>
 bif s1.2.has y4 then
 (inr s1.1 64).bind fun y5=>
 some ((Set'.upd s1.2 y5 true))
 else
 (inr s1.1 64).bind fun y6=>
 (inr s1.1 64).bind fun y7=>
 some ((Set'.upd s1.2 y7 (b.has y6)))).bind fun p8=>
 some (Out.next (w64 (s1.1 + 1),p8))
 else
 some (Out.exit (s1.2)):Option (Out (Int×Set') (Set') Set'))) F (0,a)).bind fun (o12:(Set') ⊕ Set')=>(match o12 with
 | .inl x10=>
 some x10
 | .inr r13=>some r13)
theorem c325 (F:Nat) (a:Set') (b:Set') (res:Set') (hm:m325 F a b = some res) (h:List ABlk):ACall Tryz.prog 325 [a.av,b.av] h (.ret (res.av)) h:=by
 unfold m325 at hm
 refine ACall.mir 0 Tryz.func325 rfl (.cons (Set'.apart _) (.cons (Set'.apart _) .nil)) (nlst rfl) ?_ h
 show SX _ _ _ 24 _ _ _ _
 refine SX.seq (SX.rr rfl ?_)
 refine SX.seq (SX.seq ?_)
 refine SX.rr rfl ?_
 obtain ⟨o12,ho12,hm⟩:=bindE hm
 refine SX.forget (al':=[(2,AV.ptr 0 0 0 0),(3,AV.ptr 1 0 0 0),(4,AV.ptr 2 0 0 0),(5,AV.int .i64 0)]) (leA_of rfl) ?_
 refine SX.iter (fun (s1:Int×Set') (g2:Unit)=>[(2,AV.ptr 0 0 0 0),(3,AV.ptr 1 0 0 0),(4,AV.ptr 2 0 0 0),(5,AV.int .i64 s1.1)]) (fun (s1:Int×Set') (g2:Unit)=>[ABlk.row 0 65 [s1.2.av],ABlk.row 0 65 [b.av],ABlk.row 0 65 [e0]]) (fun (x10:Set') (g11:Unit)=>[(2,AV.ptr 0 0 0 0),(4,AV.ptr 2 0 0 0)]) (fun (x10:Set') (g11:Unit)=>[ABlk.row 0 65 [x10.av],ABlk.row 0 65 [b.av],ABlk.row 0 65 [e0]]) (fun r al df h=>Ret Tryz.prog Tryz.f325 (r.av) al df h) () ho12 rfl rfl ?_ ?_ ?_
 ·intro s1 g2 out3 hb
  refine SX.seq (SX.seq ?_)
  refine SX.rr rfl ?_
  refine SX.condM rfl rfl hb (fun ht hb=>?_) (fun ht hb=>?_)
  ·refine SX.sk (SX.seq (SX.block ?_))
   obtain ⟨p8,hj,hb⟩:=bindE hb
   refine SX.join ([(2,AV.ptr 0 0 0 0),(3,AV.ptr 1 0 0 0),(4,AV.ptr 2 0 0 0),(5,AV.int .i64 s1.1)]) ([ABlk.row 0 65 [p8.av],ABlk.row 0 65 [b.av],ABlk.row 0 65 [e0]]) (SX.region ?_) ?_
   ·refine SOps.rn 3 rfl ?_
    obtain ⟨y4,hy4,hj⟩:=bindE hj
    refine SOps.light rfl rfl (lightV_idxA rfl rfl Tryz.underlying251 rfl rfl hy4) rdNone (SOps.light rfl rfl (lightV_bit (s:=s1.2) rfl rfl rfl rfl hy4) rdNone ?_)
    refine SOps.splitM rfl rfl rfl rdNone hj (fun hj=>?_) (fun hj=>?_)
    ·refine SOps.rn 6 rfl ?_
     obtain ⟨y5,hy5,hj⟩:=bindE hj
     refine SOps.light rfl rfl (lightV_idxA rfl rfl Tryz.underlying251 rfl rfl hy5) rdNone (SOps.heavy (v:=.poison) rfl rfl (heavyV_bit (s:=s1.2) rfl rfl rfl rfl hy5) rdNone (SOps.nil rdNone ?_))
     obtain rfl:=oj hj
     exact ⟨rfl,CutTo.sr rfl⟩
    ·refine SOps.rn 2 rfl ?_
     obtain ⟨y6,hy6,hj⟩:=bindE hj
     refine SOps.light rfl rfl (lightV_idxA rfl rfl Tryz.underlying251 rfl rfl hy6) rdNone (SOps.light rfl rfl (lightV_bit (s:=b) rfl rfl rfl rfl hy6) rdNone (SOps.rn 2 rfl ?_))
     obtain ⟨y7,hy7,hj⟩:=bindE hj
     refine SOps.light rfl rfl (lightV_idxA rfl rfl Tryz.underlying251 rfl rfl hy7) rdNone (SOps.heavy (v:=.poison) rfl rfl (heavyV_bit (s:=s1.2) rfl rfl rfl rfl hy7) rdNone (SOps.nil rdNone ?_))
     obtain rfl:=oj hj
     exact ⟨rfl,CutTo.sr rfl⟩
   refine SX.rr rfl ?_
   exact eI _ (eI () (aI (ojs hb) (CutTo.sr rfl)))
  ·refine SX.ex ?_
   exact aI rfl (eI _ (eI () (aI (ojs hb) (CutTo.sr rfl))))
 ·intro x10 g11 he
  subst he
  refine SX.seq (SX.rr rfl (SX.rt ?_))
  obtain rfl:=oj hm
  exact RetQ.mk (vs:=[x10.av]) rfl (.apart (Set'.apart _))
 ·intro r al' df' h' hr hq
  subst hr
  obtain rfl:=oj hm
  exact hq
def m326 (F:Nat) (a:Set') (b:Set'):Option Set':=
 (runs (fun (s1:Int×Set')=>
 (bif decide (s1.1 < 64) then
 ((inr s1.1 64).bind fun y4=>
 bif s1.2.has y4 then
 (inr s1.1 64).bind fun y5=>
 (inr s1.1 64).bind fun y6=>
 some ((Set'.upd s1.2 y6 (b.has y5)))
 else
 (inr s1.1 64).bind fun y7=>
 some ((Set'.upd s1.2 y7 false))).bind fun p8=>
 some (Out.next (w64 (s1.1 + 1),p8))
 else
 some (Out.exit (s1.2)):Option (Out (Int×Set') (Set') Set'))) F (0,a)).bind fun (o12:(Set') ⊕ Set')=>(match o12 with
 | .inl x10=>
 some x10
 | .inr r13=>some r13)
theorem c326 (F:Nat) (a:Set') (b:Set') (res:Set') (hm:m326 F a b = some res) (h:List ABlk):ACall Tryz.prog 326 [a.av,b.av] h (.ret (res.av)) h:=by
 unfold m326 at hm
 refine ACall.mir 0 Tryz.func326 rfl (.cons (Set'.apart _) (.cons (Set'.apart _) .nil)) (nlst rfl) ?_ h
 show SX _ _ _ 24 _ _ _ _
 refine SX.seq (SX.rr rfl ?_)
 refine SX.seq (SX.seq ?_)
 refine SX.rr rfl ?_
 obtain ⟨o12,ho12,hm⟩:=bindE hm
 refine SX.forget (al':=[(2,AV.ptr 0 0 0 0),(3,AV.ptr 1 0 0 0),(4,AV.ptr 2 0 0 0),(5,AV.int .i64 0)]) (leA_of rfl) ?_
 refine SX.iter (fun (s1:Int×Set') (g2:Unit)=>[(2,AV.ptr 0 0 0 0),(3,AV.ptr 1 0 0 0),(4,AV.ptr 2 0 0 0),(5,AV.int .i64 s1.1)]) (fun (s1:Int×Set') (g2:Unit)=>[ABlk.row 0 65 [s1.2.av],ABlk.row 0 65 [b.av],ABlk.row 0 65 [e0]]) (fun (x10:Set') (g11:Unit)=>[(2,AV.ptr 0 0 0 0),(4,AV.ptr 2 0 0 0)]) (fun (x10:Set') (g11:Unit)=>[ABlk.row 0 65 [x10.av],ABlk.row 0 65 [b.av],ABlk.row 0 65 [e0]]) (fun r al df h=>Ret Tryz.prog Tryz.f326 (r.av) al df h) () ho12 rfl rfl ?_ ?_ ?_
 ·intro s1 g2 out3 hb
  refine SX.seq (SX.seq ?_)
  refine SX.rr rfl ?_
  refine SX.condM rfl rfl hb (fun ht hb=>?_) (fun ht hb=>?_)
  ·refine SX.sk (SX.seq (SX.block ?_))
   obtain ⟨p8,hj,hb⟩:=bindE hb
   refine SX.join ([(2,AV.ptr 0 0 0 0),(3,AV.ptr 1 0 0 0),(4,AV.ptr 2 0 0 0),(5,AV.int .i64 s1.1)]) ([ABlk.row 0 65 [p8.av],ABlk.row 0 65 [b.av],ABlk.row 0 65 [e0]]) (SX.region ?_) ?_
   ·refine SOps.rn 3 rfl ?_
    obtain ⟨y4,hy4,hj⟩:=bindE hj
    refine SOps.light rfl rfl (lightV_idxA rfl rfl Tryz.underlying251 rfl rfl hy4) rdNone (SOps.light rfl rfl (lightV_bit (s:=s1.2) rfl rfl rfl rfl hy4) rdNone ?_)
    refine SOps.splitM rfl rfl rfl rdNone hj (fun hj=>?_) (fun hj=>?_)
    ·refine SOps.rn 2 rfl ?_
     obtain ⟨y5,hy5,hj⟩:=bindE hj
     refine SOps.light rfl rfl (lightV_idxA rfl rfl Tryz.underlying251 rfl rfl hy5) rdNone (SOps.light rfl rfl (lightV_bit (s:=b) rfl rfl rfl rfl hy5) rdNone (SOps.rn 2 rfl ?_))
     obtain ⟨y6,hy6,hj⟩:=bindE hj
     refine SOps.light rfl rfl (lightV_idxA rfl rfl Tryz.underlying251 rfl rfl hy6) rdNone (SOps.heavy (v:=.poison) rfl rfl (heavyV_bit (s:=s1.2) rfl rfl rfl rfl hy6) rdNone (SOps.nil rdNone ?_))
     obtain rfl:=oj hj
     exact ⟨rfl,CutTo.sr rfl⟩
    ·refine SOps.rn 6 rfl ?_
     obtain ⟨y7,hy7,hj⟩:=bindE hj
     refine SOps.light rfl rfl (lightV_idxA rfl rfl Tryz.underlying251 rfl rfl hy7) rdNone (SOps.heavy (v:=.poison) rfl rfl (heavyV_bit (s:=s1.2) rfl rfl rfl rfl hy7) rdNone (SOps.nil rdNone ?_))
     obtain rfl:=oj hj
     exact ⟨rfl,CutTo.sr rfl⟩
   refine SX.rr rfl ?_
   exact eI _ (eI () (aI (ojs hb) (CutTo.sr rfl)))
  ·refine SX.ex ?_
   exact aI rfl (eI _ (eI () (aI (ojs hb) (CutTo.sr rfl))))
 ·intro x10 g11 he
  subst he
  refine SX.seq (SX.rr rfl (SX.rt ?_))
  obtain rfl:=oj hm
  exact RetQ.mk (vs:=[x10.av]) rfl (.apart (Set'.apart _))
 ·intro r al' df' h' hr hq
  subst hr
  obtain rfl:=oj hm
  exact hq
def m373 (F:Nat) (k:Int):Option Int:=
 bif decide (k < 1) then
 some 1
 else
 bif (k == 1) then
 some 4
 else
 bif (k == 2) then
 some 16
 else
 some 64
theorem c373 (F:Nat) (k:Int) (res:Int) (hm:m373 F k = some res) (h:List ABlk):ACall Tryz.prog 373 [AV.int .i64 k] h (.ret (AV.int .i64 res)) h:=by
 unfold m373 at hm
 refine ACall.mir 0 Tryz.func373 rfl (.cons .int .nil) (nlst rfl) ?_ h
 show SX _ _ _ 9 _ _ _ _
 refine SX.seq (SX.rr rfl ?_)
 refine SX.seq (SX.seq ?_)
 refine SX.rr rfl ?_
 refine SX.condM rfl rfl hm (fun ht hm=>?_) (fun ht hm=>?_)
 ·refine SX.seq (SX.rr rfl (SX.rt ?_))
  obtain rfl:=oj hm
  exact RetQ.mk (vs:=[AV.int .i64 1]) rfl (.apart .int)
 ·refine SX.sk ?_
  refine SX.seq (SX.seq ?_)
  refine SX.rr rfl ?_
  refine SX.condM rfl rfl hm (fun ht hm=>?_) (fun ht hm=>?_)
  ·refine SX.seq (SX.rr rfl (SX.rt ?_))
   obtain rfl:=oj hm
   exact RetQ.mk (vs:=[AV.int .i64 4]) rfl (.apart .int)
  ·refine SX.sk ?_
   refine SX.seq (SX.seq ?_)
   refine SX.rr rfl ?_
   refine SX.condM rfl rfl hm (fun ht hm=>?_) (fun ht hm=>?_)
   ·refine SX.seq (SX.rr rfl (SX.rt ?_))
    obtain rfl:=oj hm
    exact RetQ.mk (vs:=[AV.int .i64 16]) rfl (.apart .int)
   ·refine SX.sk (SX.seq (SX.rr rfl (SX.rt ?_)))
    obtain rfl:=oj hm
    exact RetQ.mk (vs:=[AV.int .i64 64]) rfl (.apart .int)
def m327 (F:Nat) (a:Set') (b:Set'):Option Set':=
 (m373 F b.arity).bind fun y1=>
 (runs (fun (s2:Int×Set')=>
 ((m373 F a.arity).bind fun y5=>
 bif decide (s2.1 < y5) then
 (runs (fun (s6:Int×Set')=>
 ((m373 F b.arity).bind fun y9=>
 bif decide (s6.1 < y9) then
 (remO s6.1 (w64 (Int.tdiv y1 4))).bind fun y10=>
 ((inr s2.1 64).bind fun y11=>
 bif a.has y11 then
 (inr s6.1 64).bind fun y12=>
 bif b.has y12 then
 (quoO s6.1 (w64 (Int.tdiv y1 4))).bind fun y13=>
 bif (Int.tmod s2.1 4 == y13) then
 some (decide (w64 (w64 (w64 (Int.tdiv s2.1 4) * w64 (Int.tdiv y1 4)) + y10) < 64))
 else
 some (false)
 else
 some (false)
 else
 some (false)).bind fun p14=>
 bif p14 then
 (inr (w64 (w64 (w64 (Int.tdiv s2.1 4) * w64 (Int.tdiv y1 4)) + y10)) 64).bind fun y16=>
 some (Out.next (w64 (s6.1 + 1),(Set'.upd s6.2 y16 true)))
 else
 some (Out.next (w64 (s6.1 + 1),s6.2))
 else
 some (Out.exit (s6.2)):Option (Out (Int×Set') (Set') Set'))) F (0,s2.2)).bind fun (o19:(Set') ⊕ Set')=>(match o19 with
 | .inl x17=>
 some (Out.next (w64 (s2.1 + 1),x17))
 | .inr r20=>some (Out.ret r20))
 else
 some (Out.exit (s2.2)):Option (Out (Int×Set') (Set') Set'))) F (0,(Set'.mk (w64 (w64 (a.arity + b.arity) - 2)) fun _=>false))).bind fun (o23:(Set') ⊕ Set')=>(match o23 with
 | .inl x21=>
 some x21
 | .inr r24=>some r24)
theorem c327 (F:Nat) (a:Set') (b:Set') (res:Set') (hm:m327 F a b = some res) (h:List ABlk):ACall Tryz.prog 327 [a.av,b.av] h (.ret (res.av)) h:=by
 unfold m327 at hm
 refine ACall.mir 0 Tryz.func327 rfl (.cons (Set'.apart _) (.cons (Set'.apart _) .nil)) (nlst rfl) ?_ h
 show SX _ _ _ 69 _ _ _ _
 refine SX.seq (SX.rr rfl (SX.seq (SX.rr rfl (SX.seq (SX.rn 2 rfl ?_)))))
 obtain ⟨y1,hy1,hm⟩:=bindE hm
 refine SOps.call rfl rfl rfl rfl rfl (c373 F b.arity y1 hy1 _) rdNone (SOps.re rfl ?_)
 refine SX.seq (SX.seq ?_)
 refine SX.rr rfl ?_
 obtain ⟨o23,ho23,hm⟩:=bindE hm
 refine SX.forget (al':=[(2,AV.ptr 0 0 0 0),(3,AV.ptr 1 0 0 0),(4,AV.ptr 2 0 0 0),(5,AV.ptr 3 0 0 0),(6,AV.int .i64 (w64 (Int.tdiv y1 4))),(7,AV.int .i64 0)]) (leA_of rfl) ?_
 refine SX.iter (fun (s2:Int×Set') (g3:Unit)=>[(2,AV.ptr 0 0 0 0),(3,AV.ptr 1 0 0 0),(4,AV.ptr 2 0 0 0),(5,AV.ptr 3 0 0 0),(6,AV.int .i64 (w64 (Int.tdiv y1 4))),(7,AV.int .i64 s2.1)]) (fun (s2:Int×Set') (g3:Unit)=>[ABlk.row 0 65 [a.av],ABlk.row 0 65 [b.av],ABlk.row 0 65 [e0],ABlk.row 0 65 [s2.2.av]]) (fun (x21:Set') (g22:Unit)=>[(4,AV.ptr 2 0 0 0),(5,AV.ptr 3 0 0 0)]) (fun (x21:Set') (g22:Unit)=>[ABlk.row 0 65 [a.av],ABlk.row 0 65 [b.av],ABlk.row 0 65 [e0],ABlk.row 0 65 [x21.av]]) (fun r al df h=>Ret Tryz.prog Tryz.f327 (r.av) al df h) () ho23 rfl rfl ?_ ?_ ?_
 ·intro s2 g3 out4 hb
  refine SX.seq (SX.seq ?_)
  refine SX.rn 3 rfl ?_
  obtain ⟨y5,hy5,hb⟩:=bindE hb
  refine SOps.call rfl rfl rfl rfl rfl (c373 F a.arity y5 hy5 _) rdNone (SOps.re rfl ?_)
  refine SX.condM rfl rfl hb (fun ht hb=>?_) (fun ht hb=>?_)
  ·refine SX.sk (SX.seq (SX.block (SX.seq (SX.rr rfl ?_))))
   obtain ⟨o19,ho19,hb⟩:=bindE hb
   refine SX.forget (al':=[(2,AV.ptr 0 0 0 0),(3,AV.ptr 1 0 0 0),(4,AV.ptr 2 0 0 0),(5,AV.ptr 3 0 0 0),(6,AV.int .i64 (w64 (Int.tdiv y1 4))),(7,AV.int .i64 s2.1),(8,AV.int .i64 0)]) (leA_of rfl) ?_
   refine SX.iter (fun (s6:Int×Set') (g7:Unit)=>[(2,AV.ptr 0 0 0 0),(3,AV.ptr 1 0 0 0),(4,AV.ptr 2 0 0 0),(5,AV.ptr 3 0 0 0),(6,AV.int .i64 (w64 (Int.tdiv y1 4))),(7,AV.int .i64 s2.1),(8,AV.int .i64 s6.1)]) (fun (s6:Int×Set') (g7:Unit)=>[ABlk.row 0 65 [a.av],ABlk.row 0 65 [b.av],ABlk.row 0 65 [e0],ABlk.row 0 65 [s6.2.av]]) (fun (x17:Set') (g18:Unit)=>[(2,AV.ptr 0 0 0 0),(3,AV.ptr 1 0 0 0),(4,AV.ptr 2 0 0 0),(5,AV.ptr 3 0 0 0),(6,AV.int .i64 (w64 (Int.tdiv y1 4))),(7,AV.int .i64 s2.1)]) (fun (x17:Set') (g18:Unit)=>[ABlk.row 0 65 [a.av],ABlk.row 0 65 [b.av],ABlk.row 0 65 [e0],ABlk.row 0 65 [x17.av]]) (fun r al df h=>Ret Tryz.prog Tryz.f327 (r.av) al df h) () ho19 rfl rfl ?_ ?_ ?_
   ·intro s6 g7 out8 hb
    refine SX.seq (SX.seq ?_)
    refine SX.rn 3 rfl ?_
    obtain ⟨y9,hy9,hb⟩:=bindE hb
    refine SOps.call rfl rfl rfl rfl rfl (c373 F b.arity y9 hy9 _) rdNone (SOps.re rfl ?_)
    refine SX.condM rfl rfl hb (fun ht hb=>?_) (fun ht hb=>?_)
    ·refine SX.sk (SX.seq (SX.block (SX.seq (SX.rn 6 rfl ?_))))
     obtain ⟨y10,hy10,hb⟩:=bindE hb
     refine SOps.light rfl rfl (lightV_rem rfl rfl hy10) rdNone (SOps.re rfl (SX.seq ?_))
     obtain ⟨p14,hj,hb⟩:=bindE hb
     refine SX.join ([(2,AV.ptr 0 0 0 0),(3,AV.ptr 1 0 0 0),(4,AV.ptr 2 0 0 0),(5,AV.ptr 3 0 0 0),(6,AV.int .i64 (w64 (Int.tdiv y1 4))),(7,AV.int .i64 s2.1),(8,AV.int .i64 s6.1),(9,AV.int .i64 (w64 (w64 (w64 (Int.tdiv s2.1 4) * w64 (Int.tdiv y1 4)) + y10))),(64,AV.bool p14)]) ([ABlk.row 0 65 [a.av],ABlk.row 0 65 [b.av],ABlk.row 0 65 [e0],ABlk.row 0 65 [s6.2.av]]) (SX.region ?_) ?_
     ·refine SOps.rn 2 rfl ?_
      obtain ⟨y11,hy11,hj⟩:=bindE hj
      refine SOps.light rfl rfl (lightV_idxA rfl rfl Tryz.underlying251 rfl rfl hy11) rdNone (SOps.light rfl rfl (lightV_bit (s:=a) rfl rfl rfl rfl hy11) rdNone ?_)
      refine SOps.splitM rfl rfl rfl rdNone hj (fun hj=>?_) (fun hj=>?_)
      ·refine SOps.rn 2 rfl ?_
       obtain ⟨y12,hy12,hj⟩:=bindE hj
       refine SOps.light rfl rfl (lightV_idxA rfl rfl Tryz.underlying251 rfl rfl hy12) rdNone (SOps.light rfl rfl (lightV_bit (s:=b) rfl rfl rfl rfl hy12) rdNone (SOps.rn 1 rfl ?_))
       refine SOps.splitM rfl rfl rfl rdNone hj (fun hj=>?_) (fun hj=>?_)
       ·refine SOps.rn 4 rfl ?_
        obtain ⟨y13,hy13,hj⟩:=bindE hj
        refine SOps.light rfl rfl (lightV_quo rfl rfl hy13) rdNone (SOps.rn 2 rfl ?_)
        refine SOps.splitM rfl rfl rfl rdNone hj (fun hj=>?_) (fun hj=>?_)
        ·refine SOps.re rfl ?_
         obtain rfl:=oj hj
         exact ⟨rfl,CutTo.sr rfl⟩
        ·refine SOps.re rfl ?_
         obtain rfl:=oj hj
         exact ⟨rfl,CutTo.sr rfl⟩
       ·refine SOps.re rfl ?_
        obtain rfl:=oj hj
        exact ⟨rfl,CutTo.sr rfl⟩
      ·refine SOps.re rfl ?_
       obtain rfl:=oj hj
       exact ⟨rfl,CutTo.sr rfl⟩
     refine SX.condM rfl rfl hb (fun ht hb=>?_) (fun ht hb=>?_)
     ·refine SX.rn 2 rfl ?_
      obtain ⟨y16,hy16,hb⟩:=bindE hb
      refine SOps.light rfl rfl (lightV_idxA rfl rfl Tryz.underlying251 rfl rfl hy16) rdNone (SOps.heavy (v:=.poison) rfl rfl (heavyV_bit (s:=s6.2) rfl rfl rfl rfl hy16) rdNone (SOps.nil rdNone (SX.rr rfl ?_)))
      exact eI _ (eI () (aI (ojs hb) (CutTo.sr rfl)))
     ·refine SX.sk (SX.rr rfl ?_)
      exact eI _ (eI () (aI (ojs hb) (CutTo.sr rfl)))
    ·refine SX.ex ?_
     exact aI rfl (eI _ (eI () (aI (ojs hb) (CutTo.sr rfl))))
   ·intro x17 g18 he
    subst he
    refine SX.rr rfl ?_
    exact eI _ (eI () (aI (ojs hb) (CutTo.sr rfl)))
   ·intro r al' df' h' hr hq
    subst hr
    exact eI _ (aI (ojs hb) hq)
  ·refine SX.ex ?_
   exact aI rfl (eI _ (eI () (aI (ojs hb) (CutTo.sr rfl))))
 ·intro x21 g22 he
  subst he
  refine SX.seq (SX.rr rfl (SX.rt ?_))
  obtain rfl:=oj hm
  exact RetQ.mk (vs:=[x21.av]) rfl (.apart (Set'.apart _))
 ·intro r al' df' h' hr hq
  subst hr
  obtain rfl:=oj hm
  exact hq
def m328 (F:Nat) (a:Set') (b:Set'):Option Set':=
 (m373 F b.arity).bind fun y1=>
 (runs (fun (s2:Int×Set')=>
 ((m373 F a.arity).bind fun y5=>
 bif decide (s2.1 < y5) then
 (runs (fun (s6:Int×Set')=>
 (bif decide (s6.1 < y1) then
 ((inr s2.1 64).bind fun y9=>
 bif a.has y9 then
 (inr s6.1 64).bind fun y10=>
 bif b.has y10 then
 some (decide (w64 (w64 (s2.1 * y1) + s6.1) < 64))
 else
 some (false)
 else
 some (false)).bind fun p11=>
 bif p11 then
 (inr (w64 (w64 (s2.1 * y1) + s6.1)) 64).bind fun y13=>
 some (Out.next (w64 (s6.1 + 1),(Set'.upd s6.2 y13 true)))
 else
 some (Out.next (w64 (s6.1 + 1),s6.2))
 else
 some (Out.exit (s6.2)):Option (Out (Int×Set') (Set') Set'))) F (0,s2.2)).bind fun (o16:(Set') ⊕ Set')=>(match o16 with
 | .inl x14=>
 some (Out.next (w64 (s2.1 + 1),x14))
 | .inr r17=>some (Out.ret r17))
 else
 some (Out.exit (s2.2)):Option (Out (Int×Set') (Set') Set'))) F (0,(Set'.mk (w64 (a.arity + b.arity)) fun _=>false))).bind fun (o20:(Set') ⊕ Set')=>(match o20 with
 | .inl x18=>
 some x18
 | .inr r21=>some r21)
theorem c328 (F:Nat) (a:Set') (b:Set') (res:Set') (hm:m328 F a b = some res) (h:List ABlk):ACall Tryz.prog 328 [a.av,b.av] h (.ret (res.av)) h:=by
 unfold m328 at hm
 refine ACall.mir 0 Tryz.func328 rfl (.cons (Set'.apart _) (.cons (Set'.apart _) .nil)) (nlst rfl) ?_ h
 show SX _ _ _ 56 _ _ _ _
 refine SX.seq (SX.rr rfl (SX.seq (SX.rr rfl (SX.seq (SX.rn 2 rfl ?_)))))
 obtain ⟨y1,hy1,hm⟩:=bindE hm
 refine SOps.call rfl rfl rfl rfl rfl (c373 F b.arity y1 hy1 _) rdNone (SOps.re rfl ?_)
 refine SX.seq (SX.seq ?_)
 refine SX.rr rfl ?_
 obtain ⟨o20,ho20,hm⟩:=bindE hm
 refine SX.forget (al':=[(2,AV.ptr 0 0 0 0),(3,AV.ptr 1 0 0 0),(4,AV.ptr 2 0 0 0),(5,AV.ptr 3 0 0 0),(6,AV.int .i64 y1),(7,AV.int .i64 0)]) (leA_of rfl) ?_
 refine SX.iter (fun (s2:Int×Set') (g3:Unit)=>[(2,AV.ptr 0 0 0 0),(3,AV.ptr 1 0 0 0),(4,AV.ptr 2 0 0 0),(5,AV.ptr 3 0 0 0),(6,AV.int .i64 y1),(7,AV.int .i64 s2.1)]) (fun (s2:Int×Set') (g3:Unit)=>[ABlk.row 0 65 [a.av],ABlk.row 0 65 [b.av],ABlk.row 0 65 [e0],ABlk.row 0 65 [s2.2.av]]) (fun (x18:Set') (g19:Unit)=>[(4,AV.ptr 2 0 0 0),(5,AV.ptr 3 0 0 0)]) (fun (x18:Set') (g19:Unit)=>[ABlk.row 0 65 [a.av],ABlk.row 0 65 [b.av],ABlk.row 0 65 [e0],ABlk.row 0 65 [x18.av]]) (fun r al df h=>Ret Tryz.prog Tryz.f328 (r.av) al df h) () ho20 rfl rfl ?_ ?_ ?_
 ·intro s2 g3 out4 hb
  refine SX.seq (SX.seq ?_)
  refine SX.rn 3 rfl ?_
  obtain ⟨y5,hy5,hb⟩:=bindE hb
  refine SOps.call rfl rfl rfl rfl rfl (c373 F a.arity y5 hy5 _) rdNone (SOps.re rfl ?_)
  refine SX.condM rfl rfl hb (fun ht hb=>?_) (fun ht hb=>?_)
  ·refine SX.sk (SX.seq (SX.block (SX.seq (SX.rr rfl ?_))))
   obtain ⟨o16,ho16,hb⟩:=bindE hb
   refine SX.forget (al':=[(2,AV.ptr 0 0 0 0),(3,AV.ptr 1 0 0 0),(4,AV.ptr 2 0 0 0),(5,AV.ptr 3 0 0 0),(6,AV.int .i64 y1),(7,AV.int .i64 s2.1),(8,AV.int .i64 0)]) (leA_of rfl) ?_
   refine SX.iter (fun (s6:Int×Set') (g7:Unit)=>[(2,AV.ptr 0 0 0 0),(3,AV.ptr 1 0 0 0),(4,AV.ptr 2 0 0 0),(5,AV.ptr 3 0 0 0),(6,AV.int .i64 y1),(7,AV.int .i64 s2.1),(8,AV.int .i64 s6.1)]) (fun (s6:Int×Set') (g7:Unit)=>[ABlk.row 0 65 [a.av],ABlk.row 0 65 [b.av],ABlk.row 0 65 [e0],ABlk.row 0 65 [s6.2.av]]) (fun (x14:Set') (g15:Unit)=>[(2,AV.ptr 0 0 0 0),(3,AV.ptr 1 0 0 0),(4,AV.ptr 2 0 0 0),(5,AV.ptr 3 0 0 0),(6,AV.int .i64 y1),(7,AV.int .i64 s2.1)]) (fun (x14:Set') (g15:Unit)=>[ABlk.row 0 65 [a.av],ABlk.row 0 65 [b.av],ABlk.row 0 65 [e0],ABlk.row 0 65 [x14.av]]) (fun r al df h=>Ret Tryz.prog Tryz.f328 (r.av) al df h) () ho16 rfl rfl ?_ ?_ ?_
   ·intro s6 g7 out8 hb
    refine SX.seq (SX.seq ?_)
    refine SX.rr rfl ?_
    refine SX.condM rfl rfl hb (fun ht hb=>?_) (fun ht hb=>?_)
    ·refine SX.sk (SX.seq (SX.block (SX.seq ?_)))
     obtain ⟨p11,hj,hb⟩:=bindE hb
     refine SX.join ([(2,AV.ptr 0 0 0 0),(3,AV.ptr 1 0 0 0),(4,AV.ptr 2 0 0 0),(5,AV.ptr 3 0 0 0),(6,AV.int .i64 y1),(7,AV.int .i64 s2.1),(8,AV.int .i64 s6.1),(47,AV.bool p11)]) ([ABlk.row 0 65 [a.av],ABlk.row 0 65 [b.av],ABlk.row 0 65 [e0],ABlk.row 0 65 [s6.2.av]]) (SX.region ?_) ?_
     ·refine SOps.rn 2 rfl ?_
      obtain ⟨y9,hy9,hj⟩:=bindE hj
      refine SOps.light rfl rfl (lightV_idxA rfl rfl Tryz.underlying251 rfl rfl hy9) rdNone (SOps.light rfl rfl (lightV_bit (s:=a) rfl rfl rfl rfl hy9) rdNone ?_)
      refine SOps.splitM rfl rfl rfl rdNone hj (fun hj=>?_) (fun hj=>?_)
      ·refine SOps.rn 2 rfl ?_
       obtain ⟨y10,hy10,hj⟩:=bindE hj
       refine SOps.light rfl rfl (lightV_idxA rfl rfl Tryz.underlying251 rfl rfl hy10) rdNone (SOps.light rfl rfl (lightV_bit (s:=b) rfl rfl rfl rfl hy10) rdNone (SOps.rn 1 rfl ?_))
       refine SOps.splitM rfl rfl rfl rdNone hj (fun hj=>?_) (fun hj=>?_)
       ·refine SOps.re rfl ?_
        obtain rfl:=oj hj
        exact ⟨rfl,CutTo.sr rfl⟩
       ·refine SOps.re rfl ?_
        obtain rfl:=oj hj
        exact ⟨rfl,CutTo.sr rfl⟩
      ·refine SOps.re rfl ?_
       obtain rfl:=oj hj
       exact ⟨rfl,CutTo.sr rfl⟩
     refine SX.condM rfl rfl hb (fun ht hb=>?_) (fun ht hb=>?_)
     ·refine SX.rn 6 rfl ?_
      obtain ⟨y13,hy13,hb⟩:=bindE hb
      refine SOps.light rfl rfl (lightV_idxA rfl rfl Tryz.underlying251 rfl rfl hy13) rdNone (SOps.heavy (v:=.poison) rfl rfl (heavyV_bit (s:=s6.2) rfl rfl rfl rfl hy13) rdNone (SOps.nil rdNone (SX.rr rfl ?_)))
      exact eI _ (eI () (aI (ojs hb) (CutTo.sr rfl)))
     ·refine SX.sk (SX.rr rfl ?_)
      exact eI _ (eI () (aI (ojs hb) (CutTo.sr rfl)))
    ·refine SX.ex ?_
     exact aI rfl (eI _ (eI () (aI (ojs hb) (CutTo.sr rfl))))
   ·intro x14 g15 he
    subst he
    refine SX.rr rfl ?_
    exact eI _ (eI () (aI (ojs hb) (CutTo.sr rfl)))
   ·intro r al' df' h' hr hq
    subst hr
    exact eI _ (aI (ojs hb) hq)
  ·refine SX.ex ?_
   exact aI rfl (eI _ (eI () (aI (ojs hb) (CutTo.sr rfl))))
 ·intro x18 g19 he
  subst he
  refine SX.seq (SX.rr rfl (SX.rt ?_))
  obtain rfl:=oj hm
  exact RetQ.mk (vs:=[x18.av]) rfl (.apart (Set'.apart _))
 ·intro r al' df' h' hr hq
  subst hr
  obtain rfl:=oj hm
  exact hq
def m324 (F:Nat) (sp:Spec) (k:Int):Option Set':=
 (runs (fun (s1:Int×Set')=>
 (bif decide (s1.1 < (sp.sorts.length:Int)) then
 bif (k == 1) then
 (m243 F ([s1.1])).bind fun y4=>
 (m325 F s1.2 y4).bind fun y5=>
 some (Out.next (w64 (s1.1 + 1),y5))
 else
 (m243 F ([s1.1,s1.1])).bind fun y6=>
 (m325 F s1.2 y6).bind fun y7=>
 some (Out.next (w64 (s1.1 + 1),y7))
 else
 some (Out.exit (s1.2)):Option (Out (Int×Set') (Set') Set'))) F (0,(Set'.mk k fun _=>false))).bind fun (o10:(Set') ⊕ Set')=>(match o10 with
 | .inl x8=>
 some x8
 | .inr r11=>some r11)
theorem c324 (F:Nat) (sp:Spec) (k:Int) (res:Set') (hm:m324 F sp k = some res) (h:List ABlk):ACall Tryz.prog 324 [sp.av,AV.int .i64 k] h (.ret (res.av)) h:=by
 unfold m324 at hm
 refine ACall.mir 0 Tryz.func324 rfl (.cons (Spec.apart _) (.cons .int .nil)) (nlst rfl) ?_ h
 show SX _ _ _ 30 _ _ _ _
 refine SX.seq (SX.rr rfl (SX.seq (SX.rr rfl ?_)))
 refine SX.seq (SX.seq ?_)
 refine SX.rr rfl ?_
 obtain ⟨o10,ho10,hm⟩:=bindE hm
 refine SX.forget (al':=[(1,AV.int .i64 k),(2,AV.ptr 0 0 0 0),(4,AV.ptr 1 0 0 0),(5,AV.ptr 2 0 0 0),(6,AV.int .i64 0)]) (leA_of rfl) ?_
 refine SX.iter (fun (s1:Int×Set') (g2:Unit)=>[(1,AV.int .i64 k),(2,AV.ptr 0 0 0 0),(4,AV.ptr 1 0 0 0),(5,AV.ptr 2 0 0 0),(6,AV.int .i64 s1.1)]) (fun (s1:Int×Set') (g2:Unit)=>[ABlk.row 0 4 [sp.av],ABlk.row 0 65 [e0],ABlk.row 0 65 [s1.2.av]]) (fun (x8:Set') (g9:Unit)=>[(4,AV.ptr 1 0 0 0),(5,AV.ptr 2 0 0 0)]) (fun (x8:Set') (g9:Unit)=>[ABlk.row 0 4 [sp.av],ABlk.row 0 65 [e0],ABlk.row 0 65 [x8.av]]) (fun r al df h=>Ret Tryz.prog Tryz.f324 (r.av) al df h) () ho10 rfl rfl ?_ ?_ ?_
 ·intro s1 g2 out3 hb
  refine SX.seq (SX.seq ?_)
  refine SX.rn 3 rfl (SOps.light rfl rfl (lightV_len (f:=Sort'.av) (xs:=sp.sorts) rfl rfl Tryz.underlying22 rfl) rdNone (SOps.re rfl ?_))
  refine SX.condM rfl rfl hb (fun ht hb=>?_) (fun ht hb=>?_)
  ·refine SX.sk (SX.seq (SX.block (SX.seq (SX.rr rfl ?_))))
   refine SX.condM rfl rfl hb (fun ht hb=>?_) (fun ht hb=>?_)
   ·refine SX.drawS 32 follows_mixed rfl rfl ?_
    iterate 2 refine QO.light (v:=_) rfl rfl rfl ?_
    refine QO.heavy0 (v:=_) rfl rfl rfl ?_
    obtain ⟨y4,hy4,hb⟩:=bindE hb
    refine QO.call rfl rfl rfl rfl rfl (ACall.weak (.cons .sl .nil) (c243 F ([s1.1]) y4 hy4 _)) ?_
    obtain ⟨y5,hy5,hb⟩:=bindE hb
    refine QO.call rfl rfl rfl rfl rfl (c325 F s1.2 y4 y5 hy5 _) (QO.heavy (v:=_) rfl rfl rfl rfl (QO.nil (SX.rr rfl ?_)))
    exact eI _ (eI () (aI (ojs hb) (CutTo.sr rfl)))
   ·refine SX.drawS 64 follows_mixed rfl rfl ?_
    iterate 3 refine QO.light (v:=_) rfl rfl rfl ?_
    refine QO.heavy0 (v:=_) rfl rfl rfl ?_
    obtain ⟨y6,hy6,hb⟩:=bindE hb
    refine QO.call rfl rfl rfl rfl rfl (ACall.weak (.cons .sl .nil) (c243 F ([s1.1,s1.1]) y6 hy6 _)) ?_
    obtain ⟨y7,hy7,hb⟩:=bindE hb
    refine QO.call rfl rfl rfl rfl rfl (c325 F s1.2 y6 y7 hy7 _) (QO.heavy (v:=_) rfl rfl rfl rfl (QO.nil (SX.rr rfl ?_)))
    exact eI _ (eI () (aI (ojs hb) (CutTo.sr rfl)))
  ·refine SX.ex ?_
   exact aI rfl (eI _ (eI () (aI (ojs hb) (CutTo.sr rfl))))
 ·intro x8 g9 he
  subst he
  refine SX.seq (SX.rr rfl (SX.rt ?_))
  obtain rfl:=oj hm
  exact RetQ.mk (vs:=[x8.av]) rfl (.apart (Set'.apart _))
 ·intro r al' df' h' hr hq
  subst hr
  obtain rfl:=oj hm
  exact hq
def m329 (F:Nat) (a:Set'):Option Set':=
 (runs (fun (s1:Int×Set')=>
 (bif decide (s1.1 < 16) then
 (inr s1.1 64).bind fun y4=>
 (inr (w64 (w64 (Int.tmod s1.1 4 * 4) + w64 (Int.tdiv s1.1 4))) 64).bind fun y5=>
 some (Out.next (w64 (s1.1 + 1),(Set'.upd s1.2 y5 (a.has y4))))
 else
 some (Out.exit (s1.2)):Option (Out (Int×Set') (Set') Set'))) F (0,(Set'.mk 2 fun _=>false))).bind fun (o8:(Set') ⊕ Set')=>(match o8 with
 | .inl x6=>
 some x6
 | .inr r9=>some r9)
theorem c329 (F:Nat) (a:Set') (res:Set') (hm:m329 F a = some res) (h:List ABlk):ACall Tryz.prog 329 [a.av] h (.ret (res.av)) h:=by
 unfold m329 at hm
 refine ACall.mir 0 Tryz.func329 rfl (.cons (Set'.apart _) .nil) (nlst rfl) ?_ h
 show SX _ _ _ 23 _ _ _ _
 refine SX.seq (SX.rr rfl (SX.seq (SX.rr rfl ?_)))
 refine SX.seq (SX.seq ?_)
 refine SX.rr rfl ?_
 obtain ⟨o8,ho8,hm⟩:=bindE hm
 refine SX.forget (al':=[(1,AV.ptr 0 0 0 0),(2,AV.ptr 1 0 0 0),(3,AV.ptr 2 0 0 0),(4,AV.int .i64 0)]) (leA_of rfl) ?_
 refine SX.iter (fun (s1:Int×Set') (g2:Unit)=>[(1,AV.ptr 0 0 0 0),(2,AV.ptr 1 0 0 0),(3,AV.ptr 2 0 0 0),(4,AV.int .i64 s1.1)]) (fun (s1:Int×Set') (g2:Unit)=>[ABlk.row 0 65 [a.av],ABlk.row 0 65 [e0],ABlk.row 0 65 [s1.2.av]]) (fun (x6:Set') (g7:Unit)=>[(2,AV.ptr 1 0 0 0),(3,AV.ptr 2 0 0 0)]) (fun (x6:Set') (g7:Unit)=>[ABlk.row 0 65 [a.av],ABlk.row 0 65 [e0],ABlk.row 0 65 [x6.av]]) (fun r al df h=>Ret Tryz.prog Tryz.f329 (r.av) al df h) () ho8 rfl rfl ?_ ?_ ?_
 ·intro s1 g2 out3 hb
  refine SX.seq (SX.seq ?_)
  refine SX.rr rfl ?_
  refine SX.condM rfl rfl hb (fun ht hb=>?_) (fun ht hb=>?_)
  ·refine SX.sk (SX.seq (SX.block (SX.rn 8 rfl ?_)))
   obtain ⟨y4,hy4,hb⟩:=bindE hb
   refine SOps.light rfl rfl (lightV_idxA rfl rfl Tryz.underlying251 rfl rfl hy4) rdNone (SOps.light rfl rfl (lightV_bit (s:=a) rfl rfl rfl rfl hy4) rdNone (SOps.rn 1 rfl ?_))
   obtain ⟨y5,hy5,hb⟩:=bindE hb
   refine SOps.light rfl rfl (lightV_idxA rfl rfl Tryz.underlying251 rfl rfl hy5) rdNone (SOps.heavy (v:=.poison) rfl rfl (heavyV_bit (s:=s1.2) rfl rfl rfl rfl hy5) rdNone (SOps.nil rdNone (SX.rr rfl ?_)))
   exact eI _ (eI () (aI (ojs hb) (CutTo.sr rfl)))
  ·refine SX.ex ?_
   exact aI rfl (eI _ (eI () (aI (ojs hb) (CutTo.sr rfl))))
 ·intro x6 g7 he
  subst he
  refine SX.seq (SX.rr rfl (SX.rt ?_))
  obtain rfl:=oj hm
  exact RetQ.mk (vs:=[x6.av]) rfl (.apart (Set'.apart _))
 ·intro r al' df' h' hr hq
  subst hr
  obtain rfl:=oj hm
  exact hq
def m330 (F:Nat) (a:Set'):Option Set':=
 (runs (fun (s1:Int×Set')=>
 (bif decide (s1.1 < 4) then
 (m327 F s1.2 s1.2).bind fun y4=>
 (m325 F s1.2 y4).bind fun y5=>
 some (Out.next (w64 (s1.1 + 1),y5))
 else
 some (Out.exit (s1.2)):Option (Out (Int×Set') (Set') Set'))) F (0,a)).bind fun (o8:(Set') ⊕ Set')=>(match o8 with
 | .inl x6=>
 some x6
 | .inr r9=>some r9)
theorem c330 (F:Nat) (a:Set') (res:Set') (hm:m330 F a = some res) (h:List ABlk):ACall Tryz.prog 330 [a.av] h (.ret (res.av)) h:=by
 unfold m330 at hm
 refine ACall.mir 0 Tryz.func330 rfl (.cons (Set'.apart _) .nil) (nlst rfl) ?_ h
 show SX _ _ _ 14 _ _ _ _
 refine SX.seq (SX.rr rfl ?_)
 refine SX.seq (SX.seq ?_)
 refine SX.rr rfl ?_
 obtain ⟨o8,ho8,hm⟩:=bindE hm
 refine SX.forget (al':=[(1,AV.ptr 0 0 0 0),(2,AV.ptr 1 0 0 0),(3,AV.int .i64 0)]) (leA_of rfl) ?_
 refine SX.iter (fun (s1:Int×Set') (g2:Unit)=>[(1,AV.ptr 0 0 0 0),(2,AV.ptr 1 0 0 0),(3,AV.int .i64 s1.1)]) (fun (s1:Int×Set') (g2:Unit)=>[ABlk.row 0 65 [s1.2.av],ABlk.row 0 65 [e0]]) (fun (x6:Set') (g7:Unit)=>[(1,AV.ptr 0 0 0 0),(2,AV.ptr 1 0 0 0)]) (fun (x6:Set') (g7:Unit)=>[ABlk.row 0 65 [x6.av],ABlk.row 0 65 [e0]]) (fun r al df h=>Ret Tryz.prog Tryz.f330 (r.av) al df h) () ho8 rfl rfl ?_ ?_ ?_
 ·intro s1 g2 out3 hb
  refine SX.seq (SX.seq ?_)
  refine SX.rr rfl ?_
  refine SX.condM rfl rfl hb (fun ht hb=>?_) (fun ht hb=>?_)
  ·refine SX.sk (SX.seq (SX.block (SX.drawS 32 follows_mixed rfl rfl ?_)))
   iterate 3 refine QO.light (v:=_) rfl rfl rfl ?_
   obtain ⟨y4,hy4,hb⟩:=bindE hb
   refine QO.call rfl rfl rfl rfl rfl (c327 F s1.2 s1.2 y4 hy4 _) ?_
   obtain ⟨y5,hy5,hb⟩:=bindE hb
   refine QO.call rfl rfl rfl rfl rfl (c325 F s1.2 y4 y5 hy5 _) (QO.heavy (v:=_) rfl rfl rfl rfl (QO.nil (SX.rr rfl ?_)))
   exact eI _ (eI () (aI (ojs hb) (CutTo.sr rfl)))
  ·refine SX.ex ?_
   exact aI rfl (eI _ (eI () (aI (ojs hb) (CutTo.sr rfl))))
 ·intro x6 g7 he
  subst he
  refine SX.seq (SX.rr rfl (SX.rt ?_))
  obtain rfl:=oj hm
  exact RetQ.mk (vs:=[x6.av]) rfl (.apart (Set'.apart _))
 ·intro r al' df' h' hr hq
  subst hr
  obtain rfl:=oj hm
  exact hq
def m186 (F:Nat) (sp:Spec) (name_1:ByteArray):Option (Set'×Int):=
 (runs (fun (s1:Int×Int×Set')=>
 (bif decide (s1.2.1 < (sp.fields.length:Int)) then
 (idx sp.fields s1.2.1).bind fun y4=>
 bif (y4.name.toList == name_1.toList) then
 (idx sp.fields s1.2.1).bind fun y5=>
 (m243 F y5.sorts).bind fun y6=>
 some (Out.next (w64 (s1.1 + 1),w64 (s1.2.1 + 1),y6))
 else
 some (Out.next (s1.1,w64 (s1.2.1 + 1),s1.2.2))
 else
 some (Out.exit (s1.1,s1.2.2)):Option (Out (Int×Int×Set') (Int×Set') (Set'×Int)))) F (0,0,(Set'.mk 0 fun _=>false))).bind fun (o9:(Int×Set') ⊕ (Set'×Int))=>(match o9 with
 | .inl x7=>
 (runs (fun (s10:Int×Int×Set')=>
 (bif decide (s10.2.1 < (sp.sorts.length:Int)) then
 (idx sp.sorts s10.2.1).bind fun y13=>
 (bif (y13.name.toList == name_1.toList) then
 (m243 F ([s10.2.1])).bind fun y14=>
 some (w64 (s10.1 + 1),y14)
 else
 some (s10.1,s10.2.2)).bind fun p15=>
 ((idx sp.sorts s10.2.1).bind fun y17=>
 bif y17.ordered then
 (idx sp.sorts s10.2.1).bind fun y18=>
 (sadd y18.name (ByteArray.mk #[95,102,105,114,115,116])).bind fun y19=>
 some ((y19.toList == name_1.toList))
 else
 some (false)).bind fun p20=>
 (bif p20 then
 (m243 F ([s10.2.1])).bind fun y22=>
 some (w64 (p15.1 + 1),y22)
 else
 some (p15.1,p15.2)).bind fun p23=>
 ((idx sp.sorts s10.2.1).bind fun y25=>
 bif y25.ordered then
 (idx sp.sorts s10.2.1).bind fun y26=>
 (sadd y26.name (ByteArray.mk #[95,110,101,120,116])).bind fun y27=>
 some ((y27.toList == name_1.toList))
 else
 some (false)).bind fun p28=>
 bif p28 then
 (m243 F ([s10.2.1,s10.2.1])).bind fun y30=>
 some (Out.next (w64 (p23.1 + 1),w64 (s10.2.1 + 1),y30))
 else
 some (Out.next (p23.1,w64 (s10.2.1 + 1),p23.2))
 else
 some (Out.exit (s10.1,s10.2.2)):Option (Out (Int×Int×Set') (Int×Set') (Set'×Int)))) F (x7.1,0,x7.2)).bind fun (o33:(Int×Set') ⊕ (Set'×Int))=>(match o33 with
 | .inl x31=>
 some ((x31.2,x31.1))
 | .inr r34=>some r34)
 | .inr r35=>some r35)
theorem c186 (F:Nat) (sp:Spec) (name_1:ByteArray) (res:(Set'×Int)) (hm:m186 F sp name_1 = some res) (h:List ABlk):ACall Tryz.prog 186 [sp.av,AV.str name_1] h (.ret (AV.tup [res.1.av,AV.int .i64 res.2])) h:=by
 unfold m186 at hm
 refine ACall.mir 0 Tryz.func186 rfl (.cons (Spec.apart _) (.cons .str .nil)) (nlst rfl) ?_ h
 show SX _ _ _ 102 _ _ _ _
 refine SX.seq (SX.rr rfl (SX.seq (SX.rr rfl (SX.seq (SX.rr rfl ?_)))))
 refine SX.seq (SX.seq ?_)
 refine SX.rr rfl ?_
 obtain ⟨o9,ho9,hm⟩:=bindE hm
 refine SX.forget (al':=[(1,AV.str name_1),(2,AV.ptr 0 0 0 0),(4,AV.ptr 1 0 0 0),(6,AV.ptr 2 0 0 0),(7,AV.int .i64 0),(8,AV.int .i64 0)]) (leA_of rfl) ?_
 refine SX.iter (fun (s1:Int×Int×Set') (g2:Unit)=>[(1,AV.str name_1),(2,AV.ptr 0 0 0 0),(4,AV.ptr 1 0 0 0),(6,AV.ptr 2 0 0 0),(7,AV.int .i64 s1.1),(8,AV.int .i64 s1.2.1)]) (fun (s1:Int×Int×Set') (g2:Unit)=>[ABlk.row 0 4 [sp.av],ABlk.row 0 65 [e0],ABlk.row 0 65 [s1.2.2.av]]) (fun (x7:Int×Set') (g8:Unit)=>[(1,AV.str name_1),(2,AV.ptr 0 0 0 0),(4,AV.ptr 1 0 0 0),(6,AV.ptr 2 0 0 0),(7,AV.int .i64 x7.1)]) (fun (x7:Int×Set') (g8:Unit)=>[ABlk.row 0 4 [sp.av],ABlk.row 0 65 [e0],ABlk.row 0 65 [x7.2.av]]) (fun r al df h=>Ret Tryz.prog Tryz.f186 (AV.tup [r.1.av,AV.int .i64 r.2]) al df h) () ho9 rfl rfl ?_ ?_ ?_
 ·intro s1 g2 out3 hb
  refine SX.seq (SX.seq ?_)
  refine SX.rn 3 rfl (SOps.light rfl rfl (lightV_len (f:=Field.av) (xs:=sp.fields) rfl rfl Tryz.underlying23 rfl) rdNone (SOps.re rfl ?_))
  refine SX.condM rfl rfl hb (fun ht hb=>?_) (fun ht hb=>?_)
  ·refine SX.sk (SX.seq (SX.block (SX.seq (SX.rn 3 rfl ?_))))
   obtain ⟨y4,hy4,hb⟩:=bindE hb
   refine SOps.light rfl rfl (lightV_idx (f:=Field.av) (xs:=sp.fields) rfl rfl Tryz.underlying23 rfl hy4) rdNone (SOps.re rfl ?_)
   refine SX.condM rfl rfl hb (fun ht hb=>?_) (fun ht hb=>?_)
   ·refine SX.seq (SX.rn 3 rfl ?_)
    obtain ⟨y5,hy5,hb⟩:=bindE hb
    refine SOps.light rfl rfl (lightV_idx (f:=Field.av) (xs:=sp.fields) rfl rfl Tryz.underlying23 rfl hy5) rdNone (SOps.rn 2 rfl ?_)
    obtain ⟨y6,hy6,hb⟩:=bindE hb
    refine SOps.call rfl rfl rfl rfl rfl (c243 F y5.sorts y6 hy6 _) rdNone (SOps.re rfl (SX.rr rfl (SX.rr rfl ?_)))
    exact eI _ (eI () (aI (ojs hb) (CutTo.sr rfl)))
   ·refine SX.sk (SX.rr rfl ?_)
    exact eI _ (eI () (aI (ojs hb) (CutTo.sr rfl)))
  ·refine SX.ex ?_
   exact aI rfl (eI _ (eI () (aI (ojs hb) (CutTo.sr rfl))))
 ·intro x7 g8 he
  subst he
  refine SX.seq (SX.seq ?_)
  refine SX.rr rfl ?_
  obtain ⟨o33,ho33,hm⟩:=bindE hm
  refine SX.forget (al':=[(1,AV.str name_1),(2,AV.ptr 0 0 0 0),(4,AV.ptr 1 0 0 0),(6,AV.ptr 2 0 0 0),(7,AV.int .i64 x7.1),(9,AV.int .i64 0)]) (leA_of rfl) ?_
  refine SX.iter (fun (s10:Int×Int×Set') (g11:Unit)=>[(1,AV.str name_1),(2,AV.ptr 0 0 0 0),(4,AV.ptr 1 0 0 0),(6,AV.ptr 2 0 0 0),(7,AV.int .i64 s10.1),(9,AV.int .i64 s10.2.1)]) (fun (s10:Int×Int×Set') (g11:Unit)=>[ABlk.row 0 4 [sp.av],ABlk.row 0 65 [e0],ABlk.row 0 65 [s10.2.2.av]]) (fun (x31:Int×Set') (g32:Unit)=>[(4,AV.ptr 1 0 0 0),(6,AV.ptr 2 0 0 0),(7,AV.int .i64 x31.1)]) (fun (x31:Int×Set') (g32:Unit)=>[ABlk.row 0 4 [sp.av],ABlk.row 0 65 [e0],ABlk.row 0 65 [x31.2.av]]) (fun r al df h=>Ret Tryz.prog Tryz.f186 (AV.tup [r.1.av,AV.int .i64 r.2]) al df h) () ho33 rfl rfl ?_ ?_ ?_
  ·intro s10 g11 out12 hb
   refine SX.seq (SX.seq ?_)
   refine SX.rn 3 rfl (SOps.light rfl rfl (lightV_len (f:=Sort'.av) (xs:=sp.sorts) rfl rfl Tryz.underlying22 rfl) rdNone (SOps.re rfl ?_))
   refine SX.condM rfl rfl hb (fun ht hb=>?_) (fun ht hb=>?_)
   ·refine SX.sk (SX.seq (SX.block ?_))
    refine SX.seq (SX.seq ?_)
    refine SX.rn 3 rfl ?_
    obtain ⟨y13,hy13,hb⟩:=bindE hb
    refine SOps.light rfl rfl (lightV_idx (f:=Sort'.av) (xs:=sp.sorts) rfl rfl Tryz.underlying22 rfl hy13) rdNone (SOps.re rfl ?_)
    obtain ⟨p15,hj,hb⟩:=bindE hb
    refine SX.join ([(1,AV.str name_1),(2,AV.ptr 0 0 0 0),(4,AV.ptr 1 0 0 0),(6,AV.ptr 2 0 0 0),(9,AV.int .i64 s10.2.1),(7,AV.int .i64 p15.1)]) ([ABlk.row 0 4 [sp.av],ABlk.row 0 65 [e0],ABlk.row 0 65 [p15.2.av]]) (SX.condM rfl rfl hj (fun ht hj=>?_) (fun ht hj=>?_)) ?_
    ·refine SX.seq (SX.rn 2 rfl ?_)
     obtain ⟨y14,hy14,hj⟩:=bindE hj
     refine SOps.call rfl rfl rfl rfl rfl (ACall.weak (.cons .sl .nil) (c243 F ([s10.2.1]) y14 hy14 _)) rdNone (SOps.re rfl (SX.rr rfl ?_))
     obtain rfl:=oj hj
     exact ⟨rfl,CutTo.sr rfl⟩
    ·refine SX.sk ?_
     obtain rfl:=oj hj
     exact ⟨rfl,CutTo.sr rfl⟩
    refine SX.seq (SX.seq ?_)
    obtain ⟨p20,hj,hb⟩:=bindE hb
    refine SX.join ([(1,AV.str name_1),(2,AV.ptr 0 0 0 0),(4,AV.ptr 1 0 0 0),(6,AV.ptr 2 0 0 0),(7,AV.int .i64 p15.1),(9,AV.int .i64 s10.2.1),(71,AV.bool p20)]) ([ABlk.row 0 4 [sp.av],ABlk.row 0 65 [e0],ABlk.row 0 65 [p15.2.av]]) (SX.region ?_) ?_
    ·refine SOps.rn 3 rfl ?_
     obtain ⟨y17,hy17,hj⟩:=bindE hj
     refine SOps.light rfl rfl (lightV_idx (f:=Sort'.av) (xs:=sp.sorts) rfl rfl Tryz.underlying22 rfl hy17) rdNone (SOps.rn 2 rfl ?_)
     refine SOps.splitM rfl rfl rfl rdNone hj (fun hj=>?_) (fun hj=>?_)
     ·refine SOps.rn 3 rfl ?_
      obtain ⟨y18,hy18,hj⟩:=bindE hj
      refine SOps.light rfl rfl (lightV_idx (f:=Sort'.av) (xs:=sp.sorts) rfl rfl Tryz.underlying22 rfl hy18) rdNone (SOps.rn 2 rfl ?_)
      obtain ⟨y19,hy19,hj⟩:=bindE hj
      refine SOps.light rfl rfl (lightV_sadd rfl rfl hy19) rdNone (SOps.re rfl ?_)
      obtain rfl:=oj hj
      exact ⟨rfl,CutTo.sr rfl⟩
     ·refine SOps.re rfl ?_
      obtain rfl:=oj hj
      exact ⟨rfl,CutTo.sr rfl⟩
    obtain ⟨p23,hj,hb⟩:=bindE hb
    refine SX.join ([(1,AV.str name_1),(2,AV.ptr 0 0 0 0),(4,AV.ptr 1 0 0 0),(6,AV.ptr 2 0 0 0),(9,AV.int .i64 s10.2.1),(7,AV.int .i64 p23.1)]) ([ABlk.row 0 4 [sp.av],ABlk.row 0 65 [e0],ABlk.row 0 65 [p23.2.av]]) (SX.condM rfl rfl hj (fun ht hj=>?_) (fun ht hj=>?_)) ?_
    ·refine SX.seq (SX.rn 2 rfl ?_)
     obtain ⟨y22,hy22,hj⟩:=bindE hj
     refine SOps.call rfl rfl rfl rfl rfl (ACall.weak (.cons .sl .nil) (c243 F ([s10.2.1]) y22 hy22 _)) rdNone (SOps.re rfl (SX.rr rfl ?_))
     obtain rfl:=oj hj
     exact ⟨rfl,CutTo.sr rfl⟩
    ·refine SX.sk ?_
     obtain rfl:=oj hj
     exact ⟨rfl,CutTo.sr rfl⟩
    refine SX.seq ?_
    obtain ⟨p28,hj,hb⟩:=bindE hb
    refine SX.join ([(1,AV.str name_1),(2,AV.ptr 0 0 0 0),(4,AV.ptr 1 0 0 0),(6,AV.ptr 2 0 0 0),(7,AV.int .i64 p23.1),(9,AV.int .i64 s10.2.1),(93,AV.bool p28)]) ([ABlk.row 0 4 [sp.av],ABlk.row 0 65 [e0],ABlk.row 0 65 [p23.2.av]]) (SX.region ?_) ?_
    ·refine SOps.rn 3 rfl ?_
     obtain ⟨y25,hy25,hj⟩:=bindE hj
     refine SOps.light rfl rfl (lightV_idx (f:=Sort'.av) (xs:=sp.sorts) rfl rfl Tryz.underlying22 rfl hy25) rdNone (SOps.rn 2 rfl ?_)
     refine SOps.splitM rfl rfl rfl rdNone hj (fun hj=>?_) (fun hj=>?_)
     ·refine SOps.rn 3 rfl ?_
      obtain ⟨y26,hy26,hj⟩:=bindE hj
      refine SOps.light rfl rfl (lightV_idx (f:=Sort'.av) (xs:=sp.sorts) rfl rfl Tryz.underlying22 rfl hy26) rdNone (SOps.rn 2 rfl ?_)
      obtain ⟨y27,hy27,hj⟩:=bindE hj
      refine SOps.light rfl rfl (lightV_sadd rfl rfl hy27) rdNone (SOps.re rfl ?_)
      obtain rfl:=oj hj
      exact ⟨rfl,CutTo.sr rfl⟩
     ·refine SOps.re rfl ?_
      obtain rfl:=oj hj
      exact ⟨rfl,CutTo.sr rfl⟩
    refine SX.condM rfl rfl hb (fun ht hb=>?_) (fun ht hb=>?_)
    ·refine SX.seq (SX.rn 3 rfl ?_)
     obtain ⟨y30,hy30,hb⟩:=bindE hb
     refine SOps.call rfl rfl rfl rfl rfl (ACall.weak (.cons .sl .nil) (c243 F ([s10.2.1,s10.2.1]) y30 hy30 _)) rdNone (SOps.re rfl (SX.rr rfl (SX.rr rfl ?_)))
     exact eI _ (eI () (aI (ojs hb) (CutTo.sr rfl)))
    ·refine SX.sk (SX.rr rfl ?_)
     exact eI _ (eI () (aI (ojs hb) (CutTo.sr rfl)))
   ·refine SX.ex ?_
    exact aI rfl (eI _ (eI () (aI (ojs hb) (CutTo.sr rfl))))
  ·intro x31 g32 he
   subst he
   refine SX.seq (SX.rr rfl (SX.rt ?_))
   obtain rfl:=oj hm
   exact RetQ.mk (vs:=[x31.2.av,AV.int .i64 x31.1]) rfl (.tup (.cons (.apart (Set'.apart _)) (.cons (.apart .int) .nil)))
  ·intro r al' df' h' hr hq
   subst hr
   obtain rfl:=oj hm
   exact hq
 ·intro r al' df' h' hr hq
  subst hr
  obtain rfl:=oj hm
  exact hq
def m284 (F:Nat) (v:View) (env:List Var) (n:Node):Option (Set'×Diag):=
 (runs (fun (s1:Int)=>
 (bif decide (0≤s1) then
 (idx env s1).bind fun y4=>
 bif (y4.name.toList == n.name.toList) then
 (idx env s1).bind fun y5=>
 some (Out.ret ((y5.set,(Diag.mk 0 0))))
 else
 some (Out.next (w64 (s1 - 1)))
 else
 some (Out.exit (())):Option (Out (Int) (Unit) (Set'×Diag)))) F (w64 ((env.length:Int) - 1))).bind fun (o8:(Unit) ⊕ (Set'×Diag))=>(match o8 with
 | .inl x6=>
 (m186 F v.sp n.name).bind fun y9=>
 bif (y9.2 == 0) then
 some (((Set'.mk 0 fun _=>false),(Diag.mk 40 n.pos)))
 else
 bif decide (1 < y9.2) then
 some (((Set'.mk 0 fun _=>false),(Diag.mk 44 n.pos)))
 else
 some ((y9.1,(Diag.mk 0 0)))
 | .inr r10=>some r10)
theorem c284 (F:Nat) (v:View) (env:List Var) (n:Node) (res:(Set'×Diag)) (hm:m284 F v env n = some res) (h:List ABlk):ACall Tryz.prog 284 [v.av,AV.vw 66 (env.map Var.av),AV.agg (n.cells)] h (.ret (AV.tup [res.1.av,res.2.av])) h:=by
 unfold m284 at hm
 refine ACall.mir 0 Tryz.func284 rfl (.cons (View.apart _) (.cons (.vw (ApartL.map fun _ _=>(Var.apart _))) (.cons (.agg (Node.cells_apart _)) .nil))) (nlst rfl) ?_ h
 show SX _ _ _ 54 _ _ _ _
 refine SX.seq (SX.rr rfl ?_)
 refine SX.seq (SX.seq ?_)
 refine SX.rn 1 rfl (SOps.light rfl rfl (lightV_len (f:=Var.av) (xs:=env) rfl rfl Tryz.underlying300 rfl) rdNone (SOps.re rfl ?_))
 obtain ⟨o8,ho8,hm⟩:=bindE hm
 refine SX.forget (al':=[(1,AV.vw 66 (env.map Var.av)),(3,AV.ptr 0 0 0 0),(5,AV.ptr 1 0 0 0),(6,AV.ptr 2 0 0 0),(7,AV.ptr 3 0 0 0),(8,AV.int .i64 (w64 ((env.length:Int) - 1)))]) (leA_of rfl) ?_
 refine SX.iter (fun (s1:Int) (g2:Unit)=>[(1,AV.vw 66 (env.map Var.av)),(3,AV.ptr 0 0 0 0),(5,AV.ptr 1 0 0 0),(6,AV.ptr 2 0 0 0),(7,AV.ptr 3 0 0 0),(8,AV.int .i64 s1)]) (fun (s1:Int) (g2:Unit)=>[ABlk.row 0 7 [v.av],ABlk.row 0 5 [AV.agg (n.cells)],ABlk.row 0 65 [e0],ABlk.row 0 2 [d0]]) (fun (x6:Unit) (g7:Unit)=>[(3,AV.ptr 0 0 0 0),(5,AV.ptr 1 0 0 0),(6,AV.ptr 2 0 0 0),(7,AV.ptr 3 0 0 0)]) (fun (x6:Unit) (g7:Unit)=>[ABlk.row 0 7 [v.av],ABlk.row 0 5 [AV.agg (n.cells)],ABlk.row 0 65 [e0],ABlk.row 0 2 [d0]]) (fun r al df h=>Ret Tryz.prog Tryz.f284 (AV.tup [r.1.av,r.2.av]) al df h) () ho8 rfl rfl ?_ ?_ ?_
 ·intro s1 g2 out3 hb
  refine SX.seq (SX.seq ?_)
  refine SX.rr rfl ?_
  refine SX.condM rfl rfl hb (fun ht hb=>?_) (fun ht hb=>?_)
  ·refine SX.sk (SX.seq (SX.block (SX.seq (SX.draw follows_mixed rfl rdNone (PO.rn 2 rfl ?_)))))
   obtain ⟨y4,hy4,hb⟩:=bindE hb
   refine PO.light rfl rfl (lightV_idx (f:=Var.av) (xs:=env) rfl rfl Tryz.underlying300 rfl hy4) (PO.re rfl ?_)
   refine SX.condM rfl rfl hb (fun ht hb=>?_) (fun ht hb=>?_)
   ·refine SX.seq (SX.rn 2 rfl ?_)
    obtain ⟨y5,hy5,hb⟩:=bindE hb
    refine SOps.light rfl rfl (lightV_idx (f:=Var.av) (xs:=env) rfl rfl Tryz.underlying300 rfl hy5) rdNone (SOps.re rfl (SX.rt ?_))
    exact eI _ (aI (ojs hb) (Ret.mk (vs:=[y5.set.av,((Diag.mk 0 0)).av]) rfl (.tup (.cons (.apart (Set'.apart _)) (.cons (.apart (Diag.apart _)) .nil)))))
   ·refine SX.sk (SX.rr rfl ?_)
    exact eI _ (eI () (aI (ojs hb) (CutTo.sr rfl)))
  ·refine SX.ex ?_
   exact aI rfl (eI _ (eI () (aI (ojs hb) (CutTo.sr rfl))))
 ·intro x6 g7 he
  subst he
  refine SX.seq (SX.rn 4 rfl ?_)
  obtain ⟨y9,hy9,hm⟩:=bindE hm
  refine SOps.call rfl rfl rfl rfl rfl (c186 F v.sp n.name y9 hy9 _) rdNone (SOps.re rfl ?_)
  refine SX.seq (SX.seq ?_)
  refine SX.rr rfl ?_
  refine SX.condM rfl rfl hm (fun ht hm=>?_) (fun ht hm=>?_)
  ·refine SX.seq (SX.drawG 48 0 [(0,[ABlk.row 0 7 [v.av],ABlk.row 0 5 [AV.agg (n.cells)],ABlk.row 0 65 [e0],ABlk.row 0 2 [d0],ABlk.row 0 65 [y9.1.av]]),(16,[ABlk.row 0 7 [v.av],ABlk.row 0 5 [AV.agg (n.cells)],ABlk.row 0 65 [e0],ABlk.row 0 2 [d0],ABlk.row 0 65 [y9.1.av]]),(48,[ABlk.row 0 7 [v.av],ABlk.row 0 5 [AV.agg (n.cells)],ABlk.row 0 65 [e0],ABlk.row 0 2 [((Diag.mk 40 n.pos)).av],ABlk.row 0 65 [y9.1.av]])] ([ABlk.row 0 7 [v.av],ABlk.row 0 5 [AV.agg (n.cells)],ABlk.row 0 65 [e0],ABlk.row 0 2 [((Diag.mk 40 n.pos)).av],ABlk.row 0 65 [y9.1.av]]) follows_mixed rfl rfl (.head _) (aI trivial (aI trivial (aI rfl trivial))) (GO.light (v:=_) rfl rfl rfl (aI rfl (aI trivial (aI trivial trivial))) ?_))
   iterate 3 refine GO.light (v:=_) rfl rfl rfl (aI rfl (aI rfl (aI trivial trivial))) ?_
   refine GO.heavy (v:=_) rfl rfl rfl (aI (eI _ (aI rfl (.tail _ (.head _)))) (aI trivial (aI trivial trivial))) (GO.heavy (v:=_) rfl rfl rfl (aI trivial (aI (eI _ (aI rfl (.tail _ (.tail _ (.head _))))) (aI trivial trivial))) (GO.nil (SX.rt ?_)))
   obtain rfl:=oj hm
   exact RetQ.mk (vs:=[((Set'.mk 0 fun _=>false)).av,((Diag.mk 40 n.pos)).av]) rfl (.tup (.cons (.apart (Set'.apart _)) (.cons (.apart (Diag.apart _)) .nil)))
  ·refine SX.sk ?_
   refine SX.seq (SX.seq ?_)
   refine SX.rr rfl ?_
   refine SX.condM rfl rfl hm (fun ht hm=>?_) (fun ht hm=>?_)
   ·refine SX.seq (SX.drawG 48 0 [(0,[ABlk.row 0 7 [v.av],ABlk.row 0 5 [AV.agg (n.cells)],ABlk.row 0 65 [e0],ABlk.row 0 2 [d0],ABlk.row 0 65 [y9.1.av]]),(16,[ABlk.row 0 7 [v.av],ABlk.row 0 5 [AV.agg (n.cells)],ABlk.row 0 65 [e0],ABlk.row 0 2 [d0],ABlk.row 0 65 [y9.1.av]]),(48,[ABlk.row 0 7 [v.av],ABlk.row 0 5 [AV.agg (n.cells)],ABlk.row 0 65 [e0],ABlk.row 0 2 [((Diag.mk 44 n.pos)).av],ABlk.row 0 65 [y9.1.av]])] ([ABlk.row 0 7 [v.av],ABlk.row 0 5 [AV.agg (n.cells)],ABlk.row 0 65 [e0],ABlk.row 0 2 [((Diag.mk 44 n.pos)).av],ABlk.row 0 65 [y9.1.av]]) follows_mixed rfl rfl (.head _) (aI trivial (aI trivial (aI rfl trivial))) (GO.light (v:=_) rfl rfl rfl (aI rfl (aI trivial (aI trivial trivial))) ?_))
    iterate 3 refine GO.light (v:=_) rfl rfl rfl (aI rfl (aI rfl (aI trivial trivial))) ?_
    refine GO.heavy (v:=_) rfl rfl rfl (aI (eI _ (aI rfl (.tail _ (.head _)))) (aI trivial (aI trivial trivial))) (GO.heavy (v:=_) rfl rfl rfl (aI trivial (aI (eI _ (aI rfl (.tail _ (.tail _ (.head _))))) (aI trivial trivial))) (GO.nil (SX.rt ?_)))
    obtain rfl:=oj hm
    exact RetQ.mk (vs:=[((Set'.mk 0 fun _=>false)).av,((Diag.mk 44 n.pos)).av]) rfl (.tup (.cons (.apart (Set'.apart _)) (.cons (.apart (Diag.apart _)) .nil)))
   ·refine SX.sk (SX.seq (SX.rr rfl (SX.rt ?_)))
    obtain rfl:=oj hm
    exact RetQ.mk (vs:=[y9.1.av,((Diag.mk 0 0)).av]) rfl (.tup (.cons (.apart (Set'.apart _)) (.cons (.apart (Diag.apart _)) .nil)))
 ·intro r al' df' h' hr hq
  subst hr
  obtain rfl:=oj hm
  exact hq
def m224 (F:Nat) (env:List Param):Option (List Var):=
 (runs (fun (s1:Int×List Var)=>
 (bif decide (s1.1 < (env.length:Int)) then
 (idx env s1.1).bind fun y4=>
 (idx env s1.1).bind fun y5=>
 (m243 F ([y5.sort])).bind fun y6=>
 (app s1.2 ([(Var.mk y4.name y6)])).bind fun y7=>
 some (Out.next (w64 (s1.1 + 1),y7))
 else
 some (Out.exit (s1.2)):Option (Out (Int×List Var) (List Var) (List Var)))) F (0,[])).bind fun (o11:(List Var) ⊕ (List Var))=>(match o11 with
 | .inl x9=>
 some x9
 | .inr r12=>some r12)
theorem c224 (F:Nat) (env:List Param) (res:(List Var)) (hm:m224 F env = some res) (h:List ABlk):ACall Tryz.prog 224 [AV.vw 2 (env.map Param.av)] h (.ret (AV.vw 66 (res.map Var.av))) h:=by
 unfold m224 at hm
 refine ACall.mir 1 Tryz.func224 rfl (.cons (.vw (ApartL.map fun _ _=>(Param.apart _))) .nil) (nlst rfl) ?_ h
 show SX _ _ _ 28 _ _ _ _
 refine SX.seq (SX.rr rfl (SX.seq (SX.rr rfl ?_)))
 refine SX.seq (SX.seq ?_)
 refine SX.rr rfl ?_
 obtain ⟨o11,ho11,hm⟩:=bindE hm
 refine SX.forget (al':=[(0,AV.vw 2 (env.map Param.av)),(3,osl 0 0 (([]).map Var.av)),(4,AV.int .i64 0)]) (leA_of rfl) ?_
 refine SX.iter (fun (s1:Int×List Var) (g2:Nat)=>[(0,AV.vw 2 (env.map Param.av)),(3,osl 0 g2 (s1.2.map Var.av)),(4,AV.int .i64 s1.1)]) (fun (s1:Int×List Var) (g2:Nat)=>[oblk 66 g2 (s1.2.map Var.av)]) (fun (x9:List Var) (g10:Nat)=>[(3,osl 0 g10 (x9.map Var.av))]) (fun (x9:List Var) (g10:Nat)=>[oblk 66 g10 (x9.map Var.av)]) (fun r al df h=>Ret Tryz.prog Tryz.f224 (AV.vw 66 (r.map Var.av)) al df h) (0) ho11 rfl rfl ?_ ?_ ?_
 ·intro s1 g2 out3 hb
  refine SX.seq (SX.seq ?_)
  refine SX.rn 2 rfl (SOps.light rfl rfl (lightV_len (f:=Param.av) (xs:=env) rfl rfl Tryz.underlying163 rfl) rdNone (SOps.re rfl ?_))
  refine SX.condM rfl rfl hb (fun ht hb=>?_) (fun ht hb=>?_)
  ·refine SX.sk (SX.seq (SX.block (SX.drawS 32768 follows_mixed rfl rfl ?_)))
   iterate 3 refine QO.light (v:=_) rfl rfl rfl ?_
   obtain ⟨y4,hy4,hb⟩:=bindE hb
   refine QO.light rfl rfl (lightV_idx (f:=Param.av) (xs:=env) rfl rfl Tryz.underlying163 rfl hy4) ?_
   iterate 4 refine QO.light (v:=_) rfl rfl rfl ?_
   obtain ⟨y5,hy5,hb⟩:=bindE hb
   refine QO.light rfl rfl (lightV_idx (f:=Param.av) (xs:=env) rfl rfl Tryz.underlying163 rfl hy5) ?_
   iterate 2 refine QO.light (v:=_) rfl rfl rfl ?_
   refine QO.heavy0 (v:=_) rfl rfl rfl ?_
   obtain ⟨y6,hy6,hb⟩:=bindE hb
   refine QO.call rfl rfl rfl rfl rfl (ACall.weak (.cons .sl .nil) (c243 F ([y5.sort]) y6 hy6 _)) (QO.light (v:=_) rfl rfl rfl (QO.heavy0 (v:=_) rfl rfl rfl ?_))
   obtain ⟨y7,hy7,hb⟩:=bindE hb
   refine QO.growM (f:=Var.av) (xs:=s1.2) (ys:=[(Var.mk y4.name y6)]) (b:=0) (g:=g2) rfl rfl rfl rfl rfl rfl rfl rfl rfl rfl (fun _=>rfl) rfl hy7 fun g8=>(QO.light (v:=_) rfl rfl rfl (QO.nil (SX.rr rfl ?_)))
   exact eI _ (eI (g8) (aI (ojs hb) (CutTo.sr rfl)))
  ·refine SX.ex ?_
   exact aI rfl (eI _ (eI (g2) (aI (ojs hb) (CutTo.sr rfl))))
 ·intro x9 g10 he
  subst he
  refine SX.seq (SX.rr rfl (SX.rt ?_))
  obtain rfl:=oj hm
  exact RetQ.mk (vs:=[osl 0 g10 (x9.map Var.av)]) rfl (frozen_osl rfl (ApartL.map fun _ _=>(Var.apart _)))
 ·intro r al' df' h' hr hq
  subst hr
  obtain rfl:=oj hm
  exact hq
def m283 (F:Nat) (sp:Spec) (known:List Bool) (calls:Int) (name_3:ByteArray):Option Bool:=
 (m152 F sp calls name_3).bind fun y1=>
 (bif decide (0≤y1) then
 bif decide (y1 < (known.length:Int)) then
 (idx known y1).bind fun y2=>
 some (y2)
 else
 some (false)
 else
 some (false)).bind fun p3=>
 some p3
theorem c283 (F:Nat) (sp:Spec) (known:List Bool) (calls:Int) (name_3:ByteArray) (res:Bool) (hm:m283 F sp known calls name_3 = some res) (h:List ABlk):ACall Tryz.prog 283 [sp.av,AV.vw 1 (known.map AV.bool),AV.int .i64 calls,AV.str name_3] h (.ret (AV.bool res)) h:=by
 unfold m283 at hm
 refine ACall.mir 0 Tryz.func283 rfl (.cons (Spec.apart _) (.cons (.vw (ApartL.map fun _ _=>.bool)) (.cons .int (.cons .str .nil)))) (nlst rfl) ?_ h
 show SX _ _ _ 28 _ _ _ _
 refine SX.seq (SX.rr rfl (SX.seq (SX.rn 3 rfl ?_)))
 obtain ⟨y1,hy1,hm⟩:=bindE hm
 refine SOps.call rfl rfl rfl rfl rfl (c152 F sp calls name_3 y1 hy1 _) rdNone (SOps.re rfl (SX.seq ?_))
 obtain ⟨p3,hj,hm⟩:=bindE hm
 refine SX.join ([(8,AV.bool p3)]) ([ABlk.row 0 4 [sp.av]]) (SX.region ?_) ?_
 ·refine SOps.rn 2 rfl ?_
  refine SOps.splitM rfl rfl rfl rdNone hj (fun hj=>?_) (fun hj=>?_)
  ·refine SOps.rn 2 rfl (SOps.light rfl rfl (lightV_len (f:=AV.bool) (xs:=known) rfl rfl Tryz.underlying38 rfl) rdNone (SOps.rn 2 rfl ?_))
   refine SOps.splitM rfl rfl rfl rdNone hj (fun hj=>?_) (fun hj=>?_)
   ·refine SOps.rn 2 rfl ?_
    obtain ⟨y2,hy2,hj⟩:=bindE hj
    refine SOps.light rfl rfl (lightV_idx (f:=AV.bool) (xs:=known) rfl rfl Tryz.underlying38 rfl hy2) rdNone (SOps.re rfl ?_)
    obtain rfl:=oj hj
    exact ⟨rfl,CutTo.sr rfl⟩
   ·refine SOps.re rfl ?_
    obtain rfl:=oj hj
    exact ⟨rfl,CutTo.sr rfl⟩
  ·refine SOps.re rfl ?_
   obtain rfl:=oj hj
   exact ⟨rfl,CutTo.sr rfl⟩
 refine SX.rt ?_
 obtain rfl:=oj hm
 exact RetQ.mk (vs:=[AV.bool p3]) rfl (.apart .bool)
def m288p (F:Nat) (m288_:Spec→List Bool→Node→Option Bool) (sp:Spec) (known:List Bool) (n:Node):Option Bool:=
 ((m282 F n.op).bind fun y1=>
 bif y1 then
 some (true)
 else
 bif (n.op == 47) then
 (m283 F sp known ((known.length:Int)) n.name).bind fun y2=>
 some (y2)
 else
 some (false)).bind fun p3=>
 bif p3 then
 some true
 else
 (runs (fun (s5:Int)=>
 (bif decide (s5 < (n.kids.length:Int)) then
 (idx n.kids s5).bind fun y8=>
 (m288_ sp known y8).bind fun y9=>
 bif y9 then
 some (Out.ret true)
 else
 some (Out.next (w64 (s5 + 1)))
 else
 some (Out.exit (())):Option (Out (Int) (Unit) Bool))) F (0)).bind fun (o12:(Unit) ⊕ Bool)=>(match o12 with
 | .inl x10=>
 some false
 | .inr r13=>some r13)
theorem c288p (F:Nat) (m288_:Spec→List Bool→Node→Option Bool) (hc288_:∀ b0 b1 b2 r,m288_ b0 b1 b2 = some r→∀ h,ACall Tryz.prog 288 [b0.av,AV.vw 1 (b1.map AV.bool),AV.agg (b2.cells)] h (.ret (AV.bool r)) h) (sp:Spec) (known:List Bool) (n:Node) (res:Bool) (hm:m288p F m288_ sp known n = some res) (h:List ABlk) (args0:List AV) (hargs:ReadL h args0 [sp.av,AV.vw 1 (known.map AV.bool),AV.agg (n.cells)]):ACall Tryz.prog 288 args0 h (.ret (AV.bool res)) h:=by
 unfold m288p at hm
 refine ACall.mirR 0 Tryz.func288 rfl hargs (nlst rfl) ?_
 show SX _ _ _ 40 _ _ _ _
 refine SX.seq (SX.rr rfl ?_)
 refine SX.seq (SX.seq ?_)
 obtain ⟨p3,hj,hm⟩:=bindE hm
 refine SX.join ([(1,AV.vw 1 (known.map AV.bool)),(3,AV.ptr 0 0 0 0),(5,AV.ptr 1 0 0 0),(24,AV.bool p3)]) ([ABlk.row 0 4 [sp.av],ABlk.row 0 5 [AV.agg (n.cells)]]) (SX.region ?_) ?_
 ·refine SOps.rn 2 rfl ?_
  obtain ⟨y1,hy1,hj⟩:=bindE hj
  refine SOps.call rfl rfl rfl rfl rfl (c282 F n.op y1 hy1 _) rdNone ?_
  refine SOps.splitM rfl rfl rfl rdNone hj (fun hj=>?_) (fun hj=>?_)
  ·refine SOps.re rfl ?_
   obtain rfl:=oj hj
   exact ⟨rfl,CutTo.sr rfl⟩
  ·refine SOps.rn 3 rfl ?_
   refine SOps.splitM rfl rfl rfl rdNone hj (fun hj=>?_) (fun hj=>?_)
   ·refine SOps.rn 3 rfl (SOps.light rfl rfl (lightV_len (f:=AV.bool) (xs:=known) rfl rfl Tryz.underlying38 rfl) rdNone (SOps.rn 2 rfl ?_))
    obtain ⟨y2,hy2,hj⟩:=bindE hj
    refine SOps.call rfl rfl rfl rfl rfl (c283 F sp known ((known.length:Int)) n.name y2 hy2 _) rdNone (SOps.re rfl ?_)
    obtain rfl:=oj hj
    exact ⟨rfl,CutTo.sr rfl⟩
   ·refine SOps.re rfl ?_
    obtain rfl:=oj hj
    exact ⟨rfl,CutTo.sr rfl⟩
 refine SX.condM rfl rfl hm (fun ht hm=>?_) (fun ht hm=>?_)
 ·refine SX.seq (SX.rr rfl (SX.rt ?_))
  obtain rfl:=oj hm
  exact RetRQ.mk (vs:=[AV.bool true]) rfl .bool
 ·refine SX.sk ?_
  refine SX.seq (SX.seq ?_)
  refine SX.rr rfl ?_
  obtain ⟨o12,ho12,hm⟩:=bindE hm
  refine SX.forget (al':=[(1,AV.vw 1 (known.map AV.bool)),(3,AV.ptr 0 0 0 0),(5,AV.ptr 1 0 0 0),(7,AV.int .i64 0)]) (leA_of rfl) ?_
  refine SX.iter (fun (s5:Int) (g6:Unit)=>[(1,AV.vw 1 (known.map AV.bool)),(3,AV.ptr 0 0 0 0),(5,AV.ptr 1 0 0 0),(7,AV.int .i64 s5)]) (fun (s5:Int) (g6:Unit)=>[ABlk.row 0 4 [sp.av],ABlk.row 0 5 [AV.agg (n.cells)]]) (fun (x10:Unit) (g11:Unit)=>[]) (fun (x10:Unit) (g11:Unit)=>[ABlk.row 0 4 [sp.av],ABlk.row 0 5 [AV.agg (n.cells)]]) (fun r al df h=>RetR Tryz.prog Tryz.f288 (AV.bool r) al df h) () ho12 rfl rfl ?_ ?_ ?_
  ·intro s5 g6 out7 hb
   refine SX.seq (SX.seq ?_)
   refine SX.rn 3 rfl (SOps.light rfl rfl (lightV_lenN rfl rfl Tryz.underlying64 rfl) rdNone (SOps.re rfl ?_))
   refine SX.condM rfl rfl hb (fun ht hb=>?_) (fun ht hb=>?_)
   ·refine SX.sk (SX.seq (SX.block (SX.seq (SX.draw follows_mixed rfl rdNone (PO.rn 5 rfl ?_)))))
    obtain ⟨y8,hy8,hb⟩:=bindE hb
    refine PO.light rfl rfl (lightV_idxN rfl rfl Tryz.underlying64 rfl hy8) (PO.rn 1 rfl ?_)
    obtain ⟨y9,hy9,hb⟩:=bindE hb
    refine PO.call rfl rfl rfl rfl rfl (hc288_ sp known y8 y9 hy9 _) (PO.nil ?_)
    refine SX.condM rfl rfl hb (fun ht hb=>?_) (fun ht hb=>?_)
    ·refine SX.seq (SX.rr rfl (SX.rt ?_))
     exact eI _ (aI (ojs hb) (RetR.mk (vs:=[AV.bool true]) rfl .bool))
    ·refine SX.sk (SX.rr rfl ?_)
     exact eI _ (eI () (aI (ojs hb) (CutTo.sr rfl)))
   ·refine SX.ex ?_
    exact aI rfl (eI _ (eI () (aI (ojs hb) (CutTo.sr rfl))))
  ·intro x10 g11 he
   subst he
   refine SX.seq (SX.rr rfl (SX.rt ?_))
   obtain rfl:=oj hm
   exact RetRQ.mk (vs:=[AV.bool false]) rfl .bool
  ·intro r al' df' h' hr hq
   subst hr
   obtain rfl:=oj hm
   exact hq
def m288n (F:Nat):Nat→Spec→(List Bool)→Node→Option Bool
 | 0,_,_,_=>none
 | fu + 1,sp,known,n=>m288p F (m288n F fu) sp known n
theorem c288n (F:Nat):∀ (fu:Nat) (sp:Spec) (known:List Bool) (n:Node) (res:Bool),m288n F fu sp known n = some res→∀ h,ACall Tryz.prog 288 [sp.av,AV.vw 1 (known.map AV.bool),AV.agg (n.cells)] h (.ret (AV.bool res)) h
 | 0,_,_,_,_,hm=>by cases hm
 | fu + 1,sp,known,n,res,hm=>fun h=>c288p F (m288n F fu) (fun b0 b1 b2 r hr h=>c288n F fu b0 b1 b2 r hr h) sp known n res hm h _ (.apart (.cons (Spec.apart _) (.cons (.vw (ApartL.map fun _ _=>.bool)) (.cons (.agg (Node.cells_apart _)) .nil))))
def m288 (F:Nat) (sp:Spec) (known:List Bool) (n:Node):Option Bool:=m288n F F sp known n
theorem c288 (F:Nat) (sp:Spec) (known:List Bool) (n:Node) (res:Bool) (hm:m288 F sp known n = some res) (h:List ABlk) (args0:List AV) (hargs:ReadL h args0 [sp.av,AV.vw 1 (known.map AV.bool),AV.agg (n.cells)]):ACall Tryz.prog 288 args0 h (.ret (AV.bool res)) h:=by
 cases F with
 | zero=>cases hm
 | succ fu=>exact c288p (fu + 1) (m288n (fu + 1) fu) (fun b0 b1 b2 r hr h=>c288n (fu + 1) fu b0 b1 b2 r hr h) sp known n res hm h args0 hargs
end Go.AL
namespace Go.AL
open Go Go.Proofs
set_option maxRecDepth 10000
def m287 (F:Nat) (sp:Spec) (n:Node) (l:List Set'):Option (Set'×Bool):=
 bif (n.op == 2) then
 some (((Set'.mk n.n fun _=>false),true))
 else
 bif (n.op == 3) then
 (m324 F sp 1).bind fun y1=>
 some ((y1,true))
 else
 bif (n.op == 4) then
 (m324 F sp 2).bind fun y2=>
 some ((y2,true))
 else
 bif (n.op == 5) then
 (idx l 0).bind fun y3=>
 some ((y3,true))
 else
 (bif (n.op == 6) then
 some ((n.op == 6))
 else
 some ((n.op == 14))).bind fun p4=>
 bif p4 then
 (idx l 0).bind fun y6=>
 (idx l 1).bind fun y7=>
 (m325 F y6 y7).bind fun y8=>
 (idx l 0).bind fun y9=>
 (idx l 1).bind fun y10=>
 some ((y8,(y9.arity == y10.arity)))
 else
 bif (n.op == 7) then
 (idx l 0).bind fun y11=>
 (idx l 1).bind fun y12=>
 (m326 F y11 y12).bind fun y13=>
 (idx l 0).bind fun y14=>
 (idx l 1).bind fun y15=>
 some ((y13,(y14.arity == y15.arity)))
 else
 bif (n.op == 8) then
 (idx l 0).bind fun y16=>
 (idx l 0).bind fun y17=>
 (idx l 1).bind fun y18=>
 some ((y16,(y17.arity == y18.arity)))
 else
 (bif (n.op == 32) then
 some ((n.op == 32))
 else
 some ((n.op == 33))).bind fun p19=>
 bif p19 then
 (idx l 0).bind fun y21=>
 (idx l 1).bind fun y22=>
 some (((Set'.mk 0 fun _=>false),(y21.arity == y22.arity)))
 else
 bif (n.op == 9) then
 (idx l 0).bind fun y23=>
 (idx l 1).bind fun y24=>
 (idx l 0).bind fun y25=>
 (idx l 1).bind fun y26=>
 (m327 F y25 y26).bind fun y27=>
 (bif decide (1≤w64 (w64 (y23.arity + y24.arity) - 2)) then
 some (decide (w64 (w64 (y23.arity + y24.arity) - 2)≤3),y27)
 else
 some (false,y27)).bind fun p28=>
 some ((p28.2,p28.1))
 else
 bif (n.op == 10) then
 (idx l 0).bind fun y30=>
 (idx l 1).bind fun y31=>
 (m328 F y30 y31).bind fun y32=>
 (idx l 0).bind fun y33=>
 (idx l 1).bind fun y34=>
 some ((y32,decide (w64 (y33.arity + y34.arity)≤3)))
 else
 bif (n.op == 11) then
 (idx l 0).bind fun y35=>
 (m329 F y35).bind fun y36=>
 (idx l 0).bind fun y37=>
 some ((y36,(y37.arity == 2)))
 else
 bif (n.op == 12) then
 (idx l 0).bind fun y38=>
 (m330 F y38).bind fun y39=>
 (idx l 0).bind fun y40=>
 some ((y39,(y40.arity == 2)))
 else
 bif (n.op == 13) then
 (idx l 0).bind fun y41=>
 (m330 F y41).bind fun y42=>
 (m324 F sp 2).bind fun y43=>
 (m325 F y42 y43).bind fun y44=>
 (idx l 0).bind fun y45=>
 some ((y44,(y45.arity == 2)))
 else
 some (((Set'.mk 0 fun _=>false),true))
theorem c287 (F:Nat) (sp:Spec) (n:Node) (l:List Set') (res:(Set'×Bool)) (hm:m287 F sp n l = some res) (h:List ABlk) (args0:List AV) (hargs:ReadL h args0 [sp.av,AV.agg (n.cells),AV.vw 65 (l.map Set'.av)]):ACall Tryz.prog 287 args0 h (.ret (AV.tup [res.1.av,AV.bool res.2])) h:=by
 unfold m287 at hm
 refine ACall.mirR 0 Tryz.func287 rfl hargs (nlst rfl) ?_
 show SX _ _ _ 174 _ _ _ _
 refine SX.seq (SX.rr rfl ?_)
 refine SX.seq (SX.seq ?_)
 refine SX.rr rfl (SX.block (SX.seq (SX.rr rfl ?_)))
 refine SX.condM rfl rfl hm (fun ht hm=>?_) (fun ht hm=>?_)
 ·refine SX.seq (SX.rr rfl (SX.rt ?_))
  obtain rfl:=oj hm
  exact RetRQ.mk (vs:=[((Set'.mk n.n fun _=>false)).av,AV.bool true]) rfl (.tup (.cons (Set'.fresh _) (.cons .bool .nil)))
 ·refine SX.seq (SX.rr rfl ?_)
  refine SX.condM rfl rfl hm (fun ht hm=>?_) (fun ht hm=>?_)
  ·refine SX.seq (SX.rn 1 rfl ?_)
   obtain ⟨y1,hy1,hm⟩:=bindE hm
   refine SOps.call rfl rfl rfl rfl rfl (c324 F sp 1 y1 hy1 _) rdNone (SOps.re rfl (SX.rt ?_))
   obtain rfl:=oj hm
   exact RetRQ.mk (vs:=[y1.av,AV.bool true]) rfl (.tup (.cons (Set'.fresh _) (.cons .bool .nil)))
  ·refine SX.seq (SX.rr rfl ?_)
   refine SX.condM rfl rfl hm (fun ht hm=>?_) (fun ht hm=>?_)
   ·refine SX.seq (SX.rn 1 rfl ?_)
    obtain ⟨y2,hy2,hm⟩:=bindE hm
    refine SOps.call rfl rfl rfl rfl rfl (c324 F sp 2 y2 hy2 _) rdNone (SOps.re rfl (SX.rt ?_))
    obtain rfl:=oj hm
    exact RetRQ.mk (vs:=[y2.av,AV.bool true]) rfl (.tup (.cons (Set'.fresh _) (.cons .bool .nil)))
   ·refine SX.seq (SX.rr rfl ?_)
    refine SX.condM rfl rfl hm (fun ht hm=>?_) (fun ht hm=>?_)
    ·refine SX.seq (SX.rn 1 rfl ?_)
     obtain ⟨y3,hy3,hm⟩:=bindE hm
     refine SOps.light rfl rfl (lightV_idx (f:=Set'.av) (xs:=l) rfl rfl Tryz.underlying356 rfl hy3) rdNone (SOps.re rfl (SX.rt ?_))
     obtain rfl:=oj hm
     exact RetRQ.mk (vs:=[y3.av,AV.bool true]) rfl (.tup (.cons (Set'.fresh _) (.cons .bool .nil)))
    ·refine SX.seq (SX.seq ?_)
     refine SX.rr rfl ?_
     obtain ⟨p4,hj,hm⟩:=bindE hm
     refine SX.join ([(2,AV.vw 65 (l.map Set'.av)),(3,AV.ptr 0 0 0 0),(6,AV.ptr 2 0 0 0),(10,AV.int .i64 n.op),(29,AV.bool p4)]) ([ABlk.row 0 4 [sp.av],ABlk.row 0 5 [AV.agg (n.cells)],ABlk.row 0 65 [e0]]) (SX.condM rfl rfl hj (fun ht hj=>?_) (fun ht hj=>?_)) ?_
     ·refine SX.sk ?_
      obtain rfl:=oj hj
      exact ⟨rfl,CutTo.sr rfl⟩
     ·refine SX.rr rfl ?_
      obtain rfl:=oj hj
      exact ⟨rfl,CutTo.sr rfl⟩
     refine SX.condM rfl rfl hm (fun ht hm=>?_) (fun ht hm=>?_)
     ·refine SX.seq ?_
      obtain ⟨y6,hy6,hm⟩:=bindE hm
      obtain ⟨y7,hy7,hm⟩:=bindE hm
      obtain ⟨y8,hy8,hm⟩:=bindE hm
      obtain ⟨y9,hy9,hm⟩:=bindE hm
      obtain ⟨y10,hy10,hm⟩:=bindE hm
      refine SX.drawG 65536 0 [(0,[ABlk.row 0 4 [sp.av],ABlk.row 0 5 [AV.agg (n.cells)],ABlk.row 0 65 [e0]]),(65536,[ABlk.row 0 4 [sp.av],ABlk.row 0 5 [AV.agg (n.cells)],ABlk.row 0 65 [y8.av]])] ([ABlk.row 0 4 [sp.av],ABlk.row 0 5 [AV.agg (n.cells)],ABlk.row 0 65 [y8.av]]) follows_mixed rfl rfl (.head _) (aI trivial (aI rfl trivial)) (GO.light (v:=_) rfl rfl rfl (aI rfl (aI trivial trivial)) (GO.light rfl rfl rfl (aI (lightV_idx (f:=Set'.av) (xs:=l) rfl rfl Tryz.underlying356 rfl hy6) (aI trivial trivial)) ?_))
      iterate 2 refine GO.light (v:=_) rfl rfl rfl (aI rfl (aI trivial trivial)) ?_
      refine GO.light rfl rfl rfl (aI (lightV_idx (f:=Set'.av) (xs:=l) rfl rfl Tryz.underlying356 rfl hy7) (aI trivial trivial)) (GO.light (v:=_) rfl rfl rfl (aI rfl (aI trivial trivial)) (GO.call rfl rfl rfl rfl rfl rfl (aI (c325 F y6 y7 y8 hy8 _) (aI trivial trivial)) (GO.light (v:=_) rfl rfl rfl (aI rfl (aI rfl trivial)) (GO.light rfl rfl rfl (aI (lightV_idx (f:=Set'.av) (xs:=l) rfl rfl Tryz.underlying356 rfl hy9) (aI (lightV_idx (f:=Set'.av) (xs:=l) rfl rfl Tryz.underlying356 rfl hy9) trivial)) ?_))))
      iterate 3 refine GO.light (v:=_) rfl rfl rfl (aI rfl (aI rfl trivial)) ?_
      refine GO.light rfl rfl rfl (aI (lightV_idx (f:=Set'.av) (xs:=l) rfl rfl Tryz.underlying356 rfl hy10) (aI (lightV_idx (f:=Set'.av) (xs:=l) rfl rfl Tryz.underlying356 rfl hy10) trivial)) ?_
      iterate 3 refine GO.light (v:=_) rfl rfl rfl (aI rfl (aI rfl trivial)) ?_
      refine GO.heavy (v:=_) rfl rfl rfl (aI (eI _ (aI rfl (.tail _ (.head _)))) (aI trivial trivial)) (GO.light (v:=_) rfl rfl rfl (aI trivial (aI rfl trivial)) (GO.nil (SX.rt ?_)))
      obtain rfl:=oj hm
      exact RetRQ.mk (vs:=[y8.av,AV.bool ((y9.arity == y10.arity))]) rfl (.tup (.cons (Set'.fresh _) (.cons .bool .nil)))
     ·refine SX.seq (SX.rr rfl ?_)
      refine SX.condM rfl rfl hm (fun ht hm=>?_) (fun ht hm=>?_)
      ·refine SX.seq ?_
       obtain ⟨y11,hy11,hm⟩:=bindE hm
       obtain ⟨y12,hy12,hm⟩:=bindE hm
       obtain ⟨y13,hy13,hm⟩:=bindE hm
       obtain ⟨y14,hy14,hm⟩:=bindE hm
       obtain ⟨y15,hy15,hm⟩:=bindE hm
       refine SX.drawG 65536 0 [(0,[ABlk.row 0 4 [sp.av],ABlk.row 0 5 [AV.agg (n.cells)],ABlk.row 0 65 [e0]]),(65536,[ABlk.row 0 4 [sp.av],ABlk.row 0 5 [AV.agg (n.cells)],ABlk.row 0 65 [y13.av]])] ([ABlk.row 0 4 [sp.av],ABlk.row 0 5 [AV.agg (n.cells)],ABlk.row 0 65 [y13.av]]) follows_mixed rfl rfl (.head _) (aI trivial (aI rfl trivial)) (GO.light (v:=_) rfl rfl rfl (aI rfl (aI trivial trivial)) (GO.light rfl rfl rfl (aI (lightV_idx (f:=Set'.av) (xs:=l) rfl rfl Tryz.underlying356 rfl hy11) (aI trivial trivial)) ?_))
       iterate 2 refine GO.light (v:=_) rfl rfl rfl (aI rfl (aI trivial trivial)) ?_
       refine GO.light rfl rfl rfl (aI (lightV_idx (f:=Set'.av) (xs:=l) rfl rfl Tryz.underlying356 rfl hy12) (aI trivial trivial)) (GO.light (v:=_) rfl rfl rfl (aI rfl (aI trivial trivial)) (GO.call rfl rfl rfl rfl rfl rfl (aI (c326 F y11 y12 y13 hy13 _) (aI trivial trivial)) (GO.light (v:=_) rfl rfl rfl (aI rfl (aI rfl trivial)) (GO.light rfl rfl rfl (aI (lightV_idx (f:=Set'.av) (xs:=l) rfl rfl Tryz.underlying356 rfl hy14) (aI (lightV_idx (f:=Set'.av) (xs:=l) rfl rfl Tryz.underlying356 rfl hy14) trivial)) ?_))))
       iterate 3 refine GO.light (v:=_) rfl rfl rfl (aI rfl (aI rfl trivial)) ?_
       refine GO.light rfl rfl rfl (aI (lightV_idx (f:=Set'.av) (xs:=l) rfl rfl Tryz.underlying356 rfl hy15) (aI (lightV_idx (f:=Set'.av) (xs:=l) rfl rfl Tryz.underlying356 rfl hy15) trivial)) ?_
       iterate 3 refine GO.light (v:=_) rfl rfl rfl (aI rfl (aI rfl trivial)) ?_
       refine GO.heavy (v:=_) rfl rfl rfl (aI (eI _ (aI rfl (.tail _ (.head _)))) (aI trivial trivial)) (GO.light (v:=_) rfl rfl rfl (aI trivial (aI rfl trivial)) (GO.nil (SX.rt ?_)))
       obtain rfl:=oj hm
       exact RetRQ.mk (vs:=[y13.av,AV.bool ((y14.arity == y15.arity))]) rfl (.tup (.cons (Set'.fresh _) (.cons .bool .nil)))
      ·refine SX.seq (SX.rr rfl ?_)
       refine SX.condM rfl rfl hm (fun ht hm=>?_) (fun ht hm=>?_)
       ·refine SX.seq ?_
        obtain ⟨y16,hy16,hm⟩:=bindE hm
        obtain ⟨y17,hy17,hm⟩:=bindE hm
        obtain ⟨y18,hy18,hm⟩:=bindE hm
        refine SX.drawG 4096 0 [(0,[ABlk.row 0 4 [sp.av],ABlk.row 0 5 [AV.agg (n.cells)],ABlk.row 0 65 [e0]]),(4096,[ABlk.row 0 4 [sp.av],ABlk.row 0 5 [AV.agg (n.cells)],ABlk.row 0 65 [y16.av]])] ([ABlk.row 0 4 [sp.av],ABlk.row 0 5 [AV.agg (n.cells)],ABlk.row 0 65 [y16.av]]) follows_mixed rfl rfl (.head _) (aI trivial (aI rfl trivial)) (GO.light (v:=_) rfl rfl rfl (aI rfl (aI trivial trivial)) (GO.light rfl rfl rfl (aI (lightV_idx (f:=Set'.av) (xs:=l) rfl rfl Tryz.underlying356 rfl hy16) (aI trivial trivial)) (GO.light (v:=_) rfl rfl rfl (aI rfl (aI trivial trivial)) (GO.light (v:=_) rfl rfl rfl (aI rfl (aI rfl trivial)) (GO.light rfl rfl rfl (aI (lightV_idx (f:=Set'.av) (xs:=l) rfl rfl Tryz.underlying356 rfl hy17) (aI (lightV_idx (f:=Set'.av) (xs:=l) rfl rfl Tryz.underlying356 rfl hy17) trivial)) ?_)))))
        iterate 3 refine GO.light (v:=_) rfl rfl rfl (aI rfl (aI rfl trivial)) ?_
        refine GO.light rfl rfl rfl (aI (lightV_idx (f:=Set'.av) (xs:=l) rfl rfl Tryz.underlying356 rfl hy18) (aI (lightV_idx (f:=Set'.av) (xs:=l) rfl rfl Tryz.underlying356 rfl hy18) trivial)) ?_
        iterate 3 refine GO.light (v:=_) rfl rfl rfl (aI rfl (aI rfl trivial)) ?_
        refine GO.heavy (v:=_) rfl rfl rfl (aI (eI _ (aI rfl (.tail _ (.head _)))) (aI trivial trivial)) (GO.light (v:=_) rfl rfl rfl (aI trivial (aI rfl trivial)) (GO.nil (SX.rt ?_)))
        obtain rfl:=oj hm
        exact RetRQ.mk (vs:=[y16.av,AV.bool ((y17.arity == y18.arity))]) rfl (.tup (.cons (Set'.fresh _) (.cons .bool .nil)))
       ·refine SX.seq (SX.seq ?_)
        refine SX.rr rfl ?_
        obtain ⟨p19,hj,hm⟩:=bindE hm
        refine SX.join ([(2,AV.vw 65 (l.map Set'.av)),(3,AV.ptr 0 0 0 0),(6,AV.ptr 2 0 0 0),(10,AV.int .i64 n.op),(80,AV.bool p19)]) ([ABlk.row 0 4 [sp.av],ABlk.row 0 5 [AV.agg (n.cells)],ABlk.row 0 65 [e0]]) (SX.condM rfl rfl hj (fun ht hj=>?_) (fun ht hj=>?_)) ?_
        ·refine SX.sk ?_
         obtain rfl:=oj hj
         exact ⟨rfl,CutTo.sr rfl⟩
        ·refine SX.rr rfl ?_
         obtain rfl:=oj hj
         exact ⟨rfl,CutTo.sr rfl⟩
        refine SX.condM rfl rfl hm (fun ht hm=>?_) (fun ht hm=>?_)
        ·refine SX.seq ?_
         obtain ⟨y21,hy21,hm⟩:=bindE hm
         obtain ⟨y22,hy22,hm⟩:=bindE hm
         refine SX.drawG 1024 0 [(0,[ABlk.row 0 4 [sp.av],ABlk.row 0 5 [AV.agg (n.cells)],ABlk.row 0 65 [e0]]),(1024,[ABlk.row 0 4 [sp.av],ABlk.row 0 5 [AV.agg (n.cells)],ABlk.row 0 65 [e0]])] ([ABlk.row 0 4 [sp.av],ABlk.row 0 5 [AV.agg (n.cells)],ABlk.row 0 65 [e0]]) follows_mixed rfl rfl (.head _) (aI trivial (aI rfl trivial)) (GO.light (v:=_) rfl rfl rfl (aI rfl (aI trivial trivial)) (GO.light (v:=_) rfl rfl rfl (aI rfl (aI rfl trivial)) (GO.light rfl rfl rfl (aI (lightV_idx (f:=Set'.av) (xs:=l) rfl rfl Tryz.underlying356 rfl hy21) (aI (lightV_idx (f:=Set'.av) (xs:=l) rfl rfl Tryz.underlying356 rfl hy21) trivial)) ?_)))
         iterate 3 refine GO.light (v:=_) rfl rfl rfl (aI rfl (aI rfl trivial)) ?_
         refine GO.light rfl rfl rfl (aI (lightV_idx (f:=Set'.av) (xs:=l) rfl rfl Tryz.underlying356 rfl hy22) (aI (lightV_idx (f:=Set'.av) (xs:=l) rfl rfl Tryz.underlying356 rfl hy22) trivial)) ?_
         iterate 3 refine GO.light (v:=_) rfl rfl rfl (aI rfl (aI rfl trivial)) ?_
         refine GO.heavy (v:=_) rfl rfl rfl (aI (eI _ (aI rfl (.tail _ (.head _)))) (aI trivial trivial)) (GO.light (v:=_) rfl rfl rfl (aI trivial (aI rfl trivial)) (GO.nil (SX.rt ?_)))
         obtain rfl:=oj hm
         exact RetRQ.mk (vs:=[((Set'.mk 0 fun _=>false)).av,AV.bool ((y21.arity == y22.arity))]) rfl (.tup (.cons (Set'.fresh _) (.cons .bool .nil)))
        ·refine SX.seq (SX.rr rfl ?_)
         refine SX.condM rfl rfl hm (fun ht hm=>?_) (fun ht hm=>?_)
         ·refine SX.seq (SX.draw follows_mixed rfl rdNone (PO.rn 1 rfl ?_))
          obtain ⟨y23,hy23,hm⟩:=bindE hm
          refine PO.light rfl rfl (lightV_idx (f:=Set'.av) (xs:=l) rfl rfl Tryz.underlying356 rfl hy23) (PO.rn 3 rfl ?_)
          obtain ⟨y24,hy24,hm⟩:=bindE hm
          refine PO.light rfl rfl (lightV_idx (f:=Set'.av) (xs:=l) rfl rfl Tryz.underlying356 rfl hy24) (PO.re rfl (SX.seq ?_))
          obtain ⟨y25,hy25,hm⟩:=bindE hm
          obtain ⟨y26,hy26,hm⟩:=bindE hm
          obtain ⟨y27,hy27,hm⟩:=bindE hm
          obtain ⟨p28,hj,hm⟩:=bindE hm
          refine SX.join ([(6,AV.ptr 2 0 0 0),(7,AV.bool p28.1)]) ([ABlk.row 0 4 [sp.av],ABlk.row 0 5 [AV.agg (n.cells)],ABlk.row 0 65 [p28.2.av]]) (SX.drawG 8192 0 [(0,[ABlk.row 0 4 [sp.av],ABlk.row 0 5 [AV.agg (n.cells)],ABlk.row 0 65 [e0]]),(8192,[ABlk.row 0 4 [sp.av],ABlk.row 0 5 [AV.agg (n.cells)],ABlk.row 0 65 [y27.av]])] ([ABlk.row 0 4 [sp.av],ABlk.row 0 5 [AV.agg (n.cells)],ABlk.row 0 65 [y27.av]]) follows_mixed rfl rfl (.head _) (aI trivial (aI rfl trivial)) ?_) ?_
          ·refine GO.light (v:=_) rfl rfl rfl (aI rfl (aI trivial trivial)) (GO.light rfl rfl rfl (aI (lightV_idx (f:=Set'.av) (xs:=l) rfl rfl Tryz.underlying356 rfl hy25) (aI trivial trivial)) ?_)
           iterate 2 refine GO.light (v:=_) rfl rfl rfl (aI rfl (aI trivial trivial)) ?_
           refine GO.light rfl rfl rfl (aI (lightV_idx (f:=Set'.av) (xs:=l) rfl rfl Tryz.underlying356 rfl hy26) (aI trivial trivial)) (GO.light (v:=_) rfl rfl rfl (aI rfl (aI trivial trivial)) (GO.call rfl rfl rfl rfl rfl rfl (aI (c327 F y25 y26 y27 hy27 _) (aI trivial trivial)) ?_))
           iterate 2 refine GO.light (v:=_) rfl rfl rfl (aI rfl (aI trivial trivial)) ?_
           refine GO.splitM rfl rfl rfl (aI rfl (aI trivial trivial)) hj (fun hj=>?_) (fun hj=>?_)
           ·iterate 3 refine GO.light (v:=_) rfl rfl rfl (aI rfl (aI rfl trivial)) ?_
            refine GO.heavy (v:=_) rfl rfl rfl (aI (eI _ (aI rfl (.tail _ (.head _)))) (aI trivial trivial)) (GO.light (v:=_) rfl rfl rfl (aI trivial (aI rfl trivial)) (GO.nil ?_))
            obtain rfl:=oj hj
            exact ⟨rfl,CutTo.sr rfl⟩
           ·refine GO.skip rfl rfl rfl (GO.skip rfl rfl rfl (GO.light (v:=_) rfl rfl rfl (aI rfl (aI rfl trivial)) (GO.heavy (v:=_) rfl rfl rfl (aI (eI _ (aI rfl (.tail _ (.head _)))) (aI trivial trivial)) (GO.light (v:=_) rfl rfl rfl (aI trivial (aI rfl trivial)) (GO.nil ?_)))))
            obtain rfl:=oj hj
            exact ⟨rfl,CutTo.sr rfl⟩
          refine SX.rt ?_
          obtain rfl:=oj hm
          exact RetRQ.mk (vs:=[p28.2.av,AV.bool p28.1]) rfl (.tup (.cons (Set'.fresh _) (.cons .bool .nil)))
         ·refine SX.seq (SX.rr rfl ?_)
          refine SX.condM rfl rfl hm (fun ht hm=>?_) (fun ht hm=>?_)
          ·refine SX.seq ?_
           obtain ⟨y30,hy30,hm⟩:=bindE hm
           obtain ⟨y31,hy31,hm⟩:=bindE hm
           obtain ⟨y32,hy32,hm⟩:=bindE hm
           obtain ⟨y33,hy33,hm⟩:=bindE hm
           obtain ⟨y34,hy34,hm⟩:=bindE hm
           refine SX.drawG 131072 0 [(0,[ABlk.row 0 4 [sp.av],ABlk.row 0 5 [AV.agg (n.cells)],ABlk.row 0 65 [e0]]),(131072,[ABlk.row 0 4 [sp.av],ABlk.row 0 5 [AV.agg (n.cells)],ABlk.row 0 65 [y32.av]])] ([ABlk.row 0 4 [sp.av],ABlk.row 0 5 [AV.agg (n.cells)],ABlk.row 0 65 [y32.av]]) follows_mixed rfl rfl (.head _) (aI trivial (aI rfl trivial)) (GO.light (v:=_) rfl rfl rfl (aI rfl (aI trivial trivial)) (GO.light rfl rfl rfl (aI (lightV_idx (f:=Set'.av) (xs:=l) rfl rfl Tryz.underlying356 rfl hy30) (aI trivial trivial)) ?_))
           iterate 2 refine GO.light (v:=_) rfl rfl rfl (aI rfl (aI trivial trivial)) ?_
           refine GO.light rfl rfl rfl (aI (lightV_idx (f:=Set'.av) (xs:=l) rfl rfl Tryz.underlying356 rfl hy31) (aI trivial trivial)) (GO.light (v:=_) rfl rfl rfl (aI rfl (aI trivial trivial)) (GO.call rfl rfl rfl rfl rfl rfl (aI (c328 F y30 y31 y32 hy32 _) (aI trivial trivial)) (GO.light (v:=_) rfl rfl rfl (aI rfl (aI rfl trivial)) (GO.light rfl rfl rfl (aI (lightV_idx (f:=Set'.av) (xs:=l) rfl rfl Tryz.underlying356 rfl hy33) (aI (lightV_idx (f:=Set'.av) (xs:=l) rfl rfl Tryz.underlying356 rfl hy33) trivial)) ?_))))
           iterate 3 refine GO.light (v:=_) rfl rfl rfl (aI rfl (aI rfl trivial)) ?_
           refine GO.light rfl rfl rfl (aI (lightV_idx (f:=Set'.av) (xs:=l) rfl rfl Tryz.underlying356 rfl hy34) (aI (lightV_idx (f:=Set'.av) (xs:=l) rfl rfl Tryz.underlying356 rfl hy34) trivial)) ?_
           iterate 4 refine GO.light (v:=_) rfl rfl rfl (aI rfl (aI rfl trivial)) ?_
           refine GO.heavy (v:=_) rfl rfl rfl (aI (eI _ (aI rfl (.tail _ (.head _)))) (aI trivial trivial)) (GO.light (v:=_) rfl rfl rfl (aI trivial (aI rfl trivial)) (GO.nil (SX.rt ?_)))
           obtain rfl:=oj hm
           exact RetRQ.mk (vs:=[y32.av,AV.bool (decide (w64 (y33.arity + y34.arity)≤3))]) rfl (.tup (.cons (Set'.fresh _) (.cons .bool .nil)))
          ·refine SX.seq (SX.rr rfl ?_)
           refine SX.condM rfl rfl hm (fun ht hm=>?_) (fun ht hm=>?_)
           ·refine SX.seq ?_
            obtain ⟨y35,hy35,hm⟩:=bindE hm
            obtain ⟨y36,hy36,hm⟩:=bindE hm
            obtain ⟨y37,hy37,hm⟩:=bindE hm
            refine SX.drawG 512 0 [(0,[ABlk.row 0 4 [sp.av],ABlk.row 0 5 [AV.agg (n.cells)],ABlk.row 0 65 [e0]]),(512,[ABlk.row 0 4 [sp.av],ABlk.row 0 5 [AV.agg (n.cells)],ABlk.row 0 65 [y36.av]])] ([ABlk.row 0 4 [sp.av],ABlk.row 0 5 [AV.agg (n.cells)],ABlk.row 0 65 [y36.av]]) follows_mixed rfl rfl (.head _) (aI trivial (aI rfl trivial)) (GO.light (v:=_) rfl rfl rfl (aI rfl (aI trivial trivial)) (GO.light rfl rfl rfl (aI (lightV_idx (f:=Set'.av) (xs:=l) rfl rfl Tryz.underlying356 rfl hy35) (aI trivial trivial)) (GO.light (v:=_) rfl rfl rfl (aI rfl (aI trivial trivial)) (GO.call rfl rfl rfl rfl rfl rfl (aI (c329 F y35 y36 hy36 _) (aI trivial trivial)) (GO.light (v:=_) rfl rfl rfl (aI rfl (aI rfl trivial)) (GO.light rfl rfl rfl (aI (lightV_idx (f:=Set'.av) (xs:=l) rfl rfl Tryz.underlying356 rfl hy37) (aI (lightV_idx (f:=Set'.av) (xs:=l) rfl rfl Tryz.underlying356 rfl hy37) trivial)) ?_))))))
            iterate 3 refine GO.light (v:=_) rfl rfl rfl (aI rfl (aI rfl trivial)) ?_
            refine GO.heavy (v:=_) rfl rfl rfl (aI (eI _ (aI rfl (.tail _ (.head _)))) (aI trivial trivial)) (GO.light (v:=_) rfl rfl rfl (aI trivial (aI rfl trivial)) (GO.nil (SX.rt ?_)))
            obtain rfl:=oj hm
            exact RetRQ.mk (vs:=[y36.av,AV.bool ((y37.arity == 2))]) rfl (.tup (.cons (Set'.fresh _) (.cons .bool .nil)))
           ·refine SX.seq (SX.rr rfl ?_)
            refine SX.condM rfl rfl hm (fun ht hm=>?_) (fun ht hm=>?_)
            ·refine SX.seq ?_
             obtain ⟨y38,hy38,hm⟩:=bindE hm
             obtain ⟨y39,hy39,hm⟩:=bindE hm
             obtain ⟨y40,hy40,hm⟩:=bindE hm
             refine SX.drawG 512 0 [(0,[ABlk.row 0 4 [sp.av],ABlk.row 0 5 [AV.agg (n.cells)],ABlk.row 0 65 [e0]]),(512,[ABlk.row 0 4 [sp.av],ABlk.row 0 5 [AV.agg (n.cells)],ABlk.row 0 65 [y39.av]])] ([ABlk.row 0 4 [sp.av],ABlk.row 0 5 [AV.agg (n.cells)],ABlk.row 0 65 [y39.av]]) follows_mixed rfl rfl (.head _) (aI trivial (aI rfl trivial)) (GO.light (v:=_) rfl rfl rfl (aI rfl (aI trivial trivial)) (GO.light rfl rfl rfl (aI (lightV_idx (f:=Set'.av) (xs:=l) rfl rfl Tryz.underlying356 rfl hy38) (aI trivial trivial)) (GO.light (v:=_) rfl rfl rfl (aI rfl (aI trivial trivial)) (GO.call rfl rfl rfl rfl rfl rfl (aI (c330 F y38 y39 hy39 _) (aI trivial trivial)) (GO.light (v:=_) rfl rfl rfl (aI rfl (aI rfl trivial)) (GO.light rfl rfl rfl (aI (lightV_idx (f:=Set'.av) (xs:=l) rfl rfl Tryz.underlying356 rfl hy40) (aI (lightV_idx (f:=Set'.av) (xs:=l) rfl rfl Tryz.underlying356 rfl hy40) trivial)) ?_))))))
             iterate 3 refine GO.light (v:=_) rfl rfl rfl (aI rfl (aI rfl trivial)) ?_
             refine GO.heavy (v:=_) rfl rfl rfl (aI (eI _ (aI rfl (.tail _ (.head _)))) (aI trivial trivial)) (GO.light (v:=_) rfl rfl rfl (aI trivial (aI rfl trivial)) (GO.nil (SX.rt ?_)))
             obtain rfl:=oj hm
             exact RetRQ.mk (vs:=[y39.av,AV.bool ((y40.arity == 2))]) rfl (.tup (.cons (Set'.fresh _) (.cons .bool .nil)))
            ·refine SX.seq (SX.rr rfl ?_)
             refine SX.condM rfl rfl hm (fun ht hm=>?_) (fun ht hm=>?_)
             ·refine SX.seq ?_
              obtain ⟨y41,hy41,hm⟩:=bindE hm
              obtain ⟨y42,hy42,hm⟩:=bindE hm
              obtain ⟨y43,hy43,hm⟩:=bindE hm
              obtain ⟨y44,hy44,hm⟩:=bindE hm
              obtain ⟨y45,hy45,hm⟩:=bindE hm
              refine SX.drawG 4096 0 [(0,[ABlk.row 0 4 [sp.av],ABlk.row 0 5 [AV.agg (n.cells)],ABlk.row 0 65 [e0]]),(4096,[ABlk.row 0 4 [sp.av],ABlk.row 0 5 [AV.agg (n.cells)],ABlk.row 0 65 [y44.av]])] ([ABlk.row 0 4 [sp.av],ABlk.row 0 5 [AV.agg (n.cells)],ABlk.row 0 65 [y44.av]]) follows_mixed rfl rfl (.head _) (aI trivial (aI rfl trivial)) (GO.light (v:=_) rfl rfl rfl (aI rfl (aI trivial trivial)) (GO.light rfl rfl rfl (aI (lightV_idx (f:=Set'.av) (xs:=l) rfl rfl Tryz.underlying356 rfl hy41) (aI trivial trivial)) (GO.light (v:=_) rfl rfl rfl (aI rfl (aI trivial trivial)) (GO.call rfl rfl rfl rfl rfl rfl (aI (c330 F y41 y42 hy42 _) (aI trivial trivial)) (GO.light (v:=_) rfl rfl rfl (aI rfl (aI trivial trivial)) (GO.call rfl rfl rfl rfl rfl rfl (aI (c324 F sp 2 y43 hy43 _) (aI trivial trivial)) (GO.call rfl rfl rfl rfl rfl rfl (aI (c325 F y42 y43 y44 hy44 _) (aI trivial trivial)) (GO.light (v:=_) rfl rfl rfl (aI rfl (aI rfl trivial)) (GO.light rfl rfl rfl (aI (lightV_idx (f:=Set'.av) (xs:=l) rfl rfl Tryz.underlying356 rfl hy45) (aI (lightV_idx (f:=Set'.av) (xs:=l) rfl rfl Tryz.underlying356 rfl hy45) trivial)) ?_)))))))))
              iterate 3 refine GO.light (v:=_) rfl rfl rfl (aI rfl (aI rfl trivial)) ?_
              refine GO.heavy (v:=_) rfl rfl rfl (aI (eI _ (aI rfl (.tail _ (.head _)))) (aI trivial trivial)) (GO.light (v:=_) rfl rfl rfl (aI trivial (aI rfl trivial)) (GO.nil (SX.rt ?_)))
              obtain rfl:=oj hm
              exact RetRQ.mk (vs:=[y44.av,AV.bool ((y45.arity == 2))]) rfl (.tup (.cons (Set'.fresh _) (.cons .bool .nil)))
             ·refine SX.sk (SX.seq (SX.rr rfl (SX.rt ?_)))
              obtain rfl:=oj hm
              exact RetRQ.mk (vs:=[((Set'.mk 0 fun _=>false)).av,AV.bool true]) rfl (.tup (.cons (Set'.fresh _) (.cons .bool .nil)))
def m223 (F:Nat) (sp:Spec):Option (List Bool):=
 (runs (fun (s1:Int×List Bool)=>
 (bif decide (s1.1 < (sp.preds.length:Int)) then
 (idx sp.preds s1.1).bind fun y4=>
 (m288 F sp s1.2 y4.body).bind fun y5=>
 (app s1.2 ([y5])).bind fun y6=>
 some (Out.next (w64 (s1.1 + 1),y6))
 else
 some (Out.exit (s1.2)):Option (Out (Int×List Bool) (List Bool) (List Bool)))) F (0,[])).bind fun (o10:(List Bool) ⊕ (List Bool))=>(match o10 with
 | .inl x8=>
 some x8
 | .inr r11=>some r11)
theorem c223 (F:Nat) (sp:Spec) (res:(List Bool)) (hm:m223 F sp = some res) (h:List ABlk):ACall Tryz.prog 223 [sp.av] h (.ret (AV.vw 1 (res.map AV.bool))) h:=by
 unfold m223 at hm
 refine ACall.mir 1 Tryz.func223 rfl (.cons (Spec.apart _) .nil) (nlst rfl) ?_ h
 show SX _ _ _ 25 _ _ _ _
 refine SX.seq (SX.rr rfl (SX.seq (SX.rr rfl ?_)))
 refine SX.seq (SX.seq ?_)
 refine SX.rr rfl ?_
 obtain ⟨o10,ho10,hm⟩:=bindE hm
 refine SX.forget (al':=[(1,AV.ptr 1 0 0 0),(3,osl 0 0 (([]).map AV.bool)),(4,AV.int .i64 0)]) (leA_of rfl) ?_
 refine SX.iter (fun (s1:Int×List Bool) (g2:Nat)=>[(1,AV.ptr 1 0 0 0),(3,osl 0 g2 (s1.2.map AV.bool)),(4,AV.int .i64 s1.1)]) (fun (s1:Int×List Bool) (g2:Nat)=>[oblk 1 g2 (s1.2.map AV.bool),ABlk.row 0 4 [sp.av]]) (fun (x8:List Bool) (g9:Nat)=>[(3,osl 0 g9 (x8.map AV.bool))]) (fun (x8:List Bool) (g9:Nat)=>[oblk 1 g9 (x8.map AV.bool),ABlk.row 0 4 [sp.av]]) (fun r al df h=>Ret Tryz.prog Tryz.f223 (AV.vw 1 (r.map AV.bool)) al df h) (0) ho10 rfl rfl ?_ ?_ ?_
 ·intro s1 g2 out3 hb
  refine SX.seq (SX.seq ?_)
  refine SX.rn 3 rfl (SOps.light rfl rfl (lightV_len (f:=Pred.av) (xs:=sp.preds) rfl rfl Tryz.underlying24 rfl) rdNone (SOps.re rfl ?_))
  refine SX.condM rfl rfl hb (fun ht hb=>?_) (fun ht hb=>?_)
  ·refine SX.sk (SX.seq (SX.block (SX.drawS 2048 follows_mixed rfl rfl ?_)))
   iterate 6 refine QO.light (v:=_) rfl rfl rfl ?_
   obtain ⟨y4,hy4,hb⟩:=bindE hb
   refine QO.light rfl rfl (lightV_idx (f:=Pred.av) (xs:=sp.preds) rfl rfl Tryz.underlying24 rfl hy4) ?_
   iterate 2 refine QO.light (v:=_) rfl rfl rfl ?_
   obtain ⟨y5,hy5,hb⟩:=bindE hb
   refine QO.call rfl rfl rfl rfl rfl (c288 F sp s1.2 y4.body y5 hy5 _ _ (.cons (.apart (Spec.apart _)) (.cons (.osl rfl (ApartL.map fun _ _=>.bool)) (.cons (.apart (.agg (Node.cells_apart _))) .nil)))) (QO.heavy0 (v:=_) rfl rfl rfl ?_)
   obtain ⟨y6,hy6,hb⟩:=bindE hb
   refine QO.growM (f:=AV.bool) (xs:=s1.2) (ys:=[y5]) (b:=0) (g:=g2) rfl rfl rfl rfl rfl rfl rfl rfl rfl rfl (fun _=>rfl) rfl hy6 fun g7=>(QO.light (v:=_) rfl rfl rfl (QO.nil (SX.rr rfl ?_)))
   exact eI _ (eI (g7) (aI (ojs hb) (CutTo.sr rfl)))
  ·refine SX.ex ?_
   exact aI rfl (eI _ (eI (g2) (aI (ojs hb) (CutTo.sr rfl))))
 ·intro x8 g9 he
  subst he
  refine SX.seq (SX.rr rfl (SX.rt ?_))
  obtain rfl:=oj hm
  exact RetQ.mk (vs:=[osl 0 g9 (x8.map AV.bool)]) rfl (frozen_osl rfl (ApartL.map fun _ _=>.bool))
 ·intro r al' df' h' hr hq
  subst hr
  obtain rfl:=oj hm
  exact hq
def m285p (F:Nat) (m222_:View→List Var→Node→Option (Set'×Diag)) (v:View) (env:List Var) (n:Node):Option Diag:=
 (m152 F v.sp v.calls n.name).bind fun y1=>
 bif decide (y1 < 0) then
 (m152 F v.sp ((v.sp.preds.length:Int)) n.name).bind fun y2=>
 bif decide (y2 < 0) then
 some ((Diag.mk 40 n.pos))
 else
 some ((Diag.mk 45 n.pos))
 else
 (idx v.sp.preds y1).bind fun y3=>
 bif ((n.kids.length:Int) != (y3.params.length:Int)) then
 some ((Diag.mk 45 n.pos))
 else
 (runs (fun (s4:Int)=>
 (bif decide (s4 < (y3.params.length:Int)) then
 (idx n.kids s4).bind fun y7=>
 (m222_ ((View.mk v.sp v.temp v.calls true)) env y7).bind fun y8=>
 bif (y8.2.err != 0) then
 some (Out.ret y8.2)
 else
 bif (y8.1.arity != 1) then
 some (Out.ret ((Diag.mk 42 n.pos)))
 else
 (runs (fun (s9:Int)=>
 (bif decide (s9 < 4) then
 (inr s9 64).bind fun y12=>
 (bif y8.1.has y12 then
 (idx y3.params s4).bind fun y13=>
 some ((s9 != y13.sort))
 else
 some (false)).bind fun p14=>
 bif p14 then
 some (Out.ret ((Diag.mk 43 n.pos)))
 else
 some (Out.next (w64 (s9 + 1)))
 else
 some (Out.exit (())):Option (Out (Int) (Unit) Diag))) F (0)).bind fun (o18:(Unit) ⊕ Diag)=>(match o18 with
 | .inl x16=>
 some (Out.next (w64 (s4 + 1)))
 | .inr r19=>some (Out.ret r19))
 else
 some (Out.exit (())):Option (Out (Int) (Unit) Diag))) F (0)).bind fun (o22:(Unit) ⊕ Diag)=>(match o22 with
 | .inl x20=>
 some ((Diag.mk 0 0))
 | .inr r23=>some r23)
theorem c285p (F:Nat) (m222_:View→List Var→Node→Option (Set'×Diag)) (hc222_:∀ b0 b1 b2 r,m222_ b0 b1 b2 = some r→∀ h args0,ReadL h args0 [b0.av,AV.vw 66 (b1.map Var.av),AV.agg (b2.cells)]→ACall Tryz.prog 222 args0 h (.ret (AV.tup [r.1.av,r.2.av])) h) (v:View) (env:List Var) (n:Node) (res:Diag) (hm:m285p F m222_ v env n = some res) (h:List ABlk) (args0:List AV) (hargs:ReadL h args0 [v.av,AV.vw 66 (env.map Var.av),AV.agg (n.cells)]):ACall Tryz.prog 285 args0 h (.ret (res.av)) h:=by
 unfold m285p at hm
 refine ACall.mirR 0 Tryz.func285 rfl hargs (nlst rfl) ?_
 show SX _ _ _ 103 _ _ _ _
 refine SX.seq (SX.rr rfl (SX.seq (SX.rn 6 rfl ?_)))
 obtain ⟨y1,hy1,hm⟩:=bindE hm
 refine SOps.call rfl rfl rfl rfl rfl (c152 F v.sp v.calls n.name y1 hy1 _) rdNone (SOps.re rfl ?_)
 refine SX.seq (SX.seq ?_)
 refine SX.rr rfl ?_
 refine SX.condM rfl rfl hm (fun ht hm=>?_) (fun ht hm=>?_)
 ·refine SX.seq (SX.seq ?_)
  refine SX.rn 5 rfl (SOps.light rfl rfl (lightV_len (f:=Pred.av) (xs:=v.sp.preds) rfl rfl Tryz.underlying24 rfl) rdNone (SOps.rn 2 rfl ?_))
  obtain ⟨y2,hy2,hm⟩:=bindE hm
  refine SOps.call rfl rfl rfl rfl rfl (c152 F v.sp ((v.sp.preds.length:Int)) n.name y2 hy2 _) rdNone (SOps.re rfl ?_)
  refine SX.condM rfl rfl hm (fun ht hm=>?_) (fun ht hm=>?_)
  ·refine SX.seq (SX.rr rfl (SX.rt ?_))
   obtain rfl:=oj hm
   exact RetRQ.mk (vs:=[((Diag.mk 40 n.pos)).av]) rfl (.agg (.cons .int (.cons .int .nil)))
  ·refine SX.sk (SX.seq (SX.rr rfl (SX.rt ?_)))
   obtain rfl:=oj hm
   exact RetRQ.mk (vs:=[((Diag.mk 45 n.pos)).av]) rfl (.agg (.cons .int (.cons .int .nil)))
 ·refine SX.sk (SX.seq (SX.rn 4 rfl ?_))
  obtain ⟨y3,hy3,hm⟩:=bindE hm
  refine SOps.light rfl rfl (lightV_idx (f:=Pred.av) (xs:=v.sp.preds) rfl rfl Tryz.underlying24 rfl hy3) rdNone (SOps.re rfl ?_)
  refine SX.seq (SX.seq ?_)
  refine SX.rn 2 rfl (SOps.light rfl rfl (lightV_lenN rfl rfl Tryz.underlying64 rfl) rdNone (SOps.rn 1 rfl (SOps.light rfl rfl (lightV_len (f:=Param.av) (xs:=y3.params) rfl rfl Tryz.underlying163 rfl) rdNone (SOps.re rfl ?_))))
  refine SX.condM rfl rfl hm (fun ht hm=>?_) (fun ht hm=>?_)
  ·refine SX.seq (SX.rr rfl (SX.rt ?_))
   obtain rfl:=oj hm
   exact RetRQ.mk (vs:=[((Diag.mk 45 n.pos)).av]) rfl (.agg (.cons .int (.cons .int .nil)))
  ·refine SX.sk (SX.seq (SX.rr rfl ?_))
   refine SX.seq (SX.seq ?_)
   refine SX.rr rfl ?_
   obtain ⟨o22,ho22,hm⟩:=bindE hm
   refine SX.forget (al':=[(1,AV.vw 66 (env.map Var.av)),(3,AV.ptr 0 0 0 0),(5,AV.ptr 1 0 0 0),(6,AV.ptr 2 0 0 0),(8,AV.vw 2 (y3.params.map Param.av)),(9,AV.int .i64 0)]) (leA_of rfl) ?_
   refine SX.iter (fun (s4:Int) (g5:Unit)=>[(1,AV.vw 66 (env.map Var.av)),(3,AV.ptr 0 0 0 0),(5,AV.ptr 1 0 0 0),(6,AV.ptr 2 0 0 0),(8,AV.vw 2 (y3.params.map Param.av)),(9,AV.int .i64 s4)]) (fun (s4:Int) (g5:Unit)=>[ABlk.row 0 7 [vA v true],ABlk.row 0 5 [AV.agg (n.cells)],ABlk.row 0 2 [d0]]) (fun (x20:Unit) (g21:Unit)=>[(6,AV.ptr 2 0 0 0)]) (fun (x20:Unit) (g21:Unit)=>[ABlk.row 0 7 [vA v true],ABlk.row 0 5 [AV.agg (n.cells)],ABlk.row 0 2 [d0]]) (fun r al df h=>RetR Tryz.prog Tryz.f285 (r.av) al df h) () ho22 rfl rfl ?_ ?_ ?_
   ·intro s4 g5 out6 hb
    refine SX.seq (SX.seq ?_)
    refine SX.rn 2 rfl (SOps.light rfl rfl (lightV_len (f:=Param.av) (xs:=y3.params) rfl rfl Tryz.underlying163 rfl) rdNone (SOps.re rfl ?_))
    refine SX.condM rfl rfl hb (fun ht hb=>?_) (fun ht hb=>?_)
    ·refine SX.sk (SX.seq (SX.block (SX.seq ?_)))
     obtain ⟨y7,hy7,hb⟩:=bindE hb
     obtain ⟨y8,hy8,hb⟩:=bindE hb
     refine SX.drawG 30720 2 [(0,[ABlk.row 0 7 [vA v true],ABlk.row 0 5 [AV.agg (n.cells)],ABlk.row 0 2 [d0],ABlk.resv,ABlk.resv]),(2048,[ABlk.row 0 7 [vA v true],ABlk.row 0 5 [AV.agg (n.cells)],ABlk.row 0 2 [d0],ABlk.row 0 65 [e0],ABlk.resv]),(4096,[ABlk.row 0 7 [vA v true],ABlk.row 0 5 [AV.agg (n.cells)],ABlk.row 0 2 [d0],ABlk.resv,ABlk.row 0 2 [d0]]),(6144,[ABlk.row 0 7 [vA v true],ABlk.row 0 5 [AV.agg (n.cells)],ABlk.row 0 2 [d0],ABlk.row 0 65 [e0],ABlk.row 0 2 [d0]]),(14336,[ABlk.row 0 7 [vA v true],ABlk.row 0 5 [AV.agg (n.cells)],ABlk.row 0 2 [d0],ABlk.row 0 65 [y8.1.av],ABlk.row 0 2 [d0]]),(30720,[ABlk.row 0 7 [vA v true],ABlk.row 0 5 [AV.agg (n.cells)],ABlk.row 0 2 [d0],ABlk.row 0 65 [y8.1.av],ABlk.row 0 2 [y8.2.av]])] ([ABlk.row 0 7 [vA v true],ABlk.row 0 5 [AV.agg (n.cells)],ABlk.row 0 2 [d0],ABlk.row 0 65 [y8.1.av],ABlk.row 0 2 [y8.2.av]]) follows_mixed rfl rfl (.head _) (aI trivial (aI trivial (aI trivial (aI trivial (aI trivial (aI rfl trivial)))))) ?_
     iterate 5 refine GO.light (v:=_) rfl rfl rfl (aI rfl (aI rfl (aI rfl (aI rfl (aI trivial (aI trivial trivial)))))) ?_
     refine GO.light rfl rfl rfl (aI (lightV_idxN rfl rfl Tryz.underlying64 rfl hy7) (aI (lightV_idxN rfl rfl Tryz.underlying64 rfl hy7) (aI (lightV_idxN rfl rfl Tryz.underlying64 rfl hy7) (aI (lightV_idxN rfl rfl Tryz.underlying64 rfl hy7) (aI trivial (aI trivial trivial)))))) (GO.light (v:=_) rfl rfl rfl (aI rfl (aI rfl (aI rfl (aI rfl (aI trivial (aI trivial trivial)))))) (GO.call rfl rfl rfl rfl rfl rfl (aI (hc222_ ((View.mk v.sp v.temp v.calls true)) env y7 y8 hy8 _ _ (.cons vRd (.cons (.apart (.vw (ApartL.map fun _ _=>(Var.apart _)))) (.cons (.apart (.agg (Node.cells_apart _))) .nil)))) (aI (hc222_ ((View.mk v.sp v.temp v.calls true)) env y7 y8 hy8 _ _ (.cons vRd (.cons (.apart (.vw (ApartL.map fun _ _=>(Var.apart _)))) (.cons (.apart (.agg (Node.cells_apart _))) .nil)))) (aI (hc222_ ((View.mk v.sp v.temp v.calls true)) env y7 y8 hy8 _ _ (.cons vRd (.cons (.apart (.vw (ApartL.map fun _ _=>(Var.apart _)))) (.cons (.apart (.agg (Node.cells_apart _))) .nil)))) (aI (hc222_ ((View.mk v.sp v.temp v.calls true)) env y7 y8 hy8 _ _ (.cons vRd (.cons (.apart (.vw (ApartL.map fun _ _=>(Var.apart _)))) (.cons (.apart (.agg (Node.cells_apart _))) .nil)))) (aI trivial (aI trivial trivial)))))) ?_))
     iterate 2 refine GO.light (v:=_) rfl rfl rfl (aI rfl (aI rfl (aI rfl (aI rfl (aI trivial (aI trivial trivial)))))) ?_
     refine GO.light (v:=_) rfl rfl rfl (aI rfl (aI rfl (aI rfl (aI rfl (aI rfl (aI trivial trivial)))))) (GO.fill (b:=3) (v:=_) rfl rfl rfl (aI (eI _ (aI rfl (.tail _ (.head _)))) (aI trivial (aI (eI _ (aI rfl (.tail _ (.tail _ (.tail _ (.head _)))))) (aI trivial (aI trivial (aI trivial trivial)))))) (GO.fill (b:=4) (v:=_) rfl rfl rfl (aI (eI _ (aI rfl (.tail _ (.tail _ (.head _))))) (aI (eI _ (aI rfl (.tail _ (.tail _ (.tail _ (.head _)))))) (aI trivial (aI trivial (aI trivial (aI trivial trivial)))))) (GO.heavy (v:=_) rfl rfl rfl (aI trivial (aI trivial (aI trivial (aI (eI _ (aI rfl (.tail _ (.tail _ (.tail _ (.tail _ (.head _))))))) (aI trivial (aI trivial trivial)))))) (GO.heavy (v:=_) rfl rfl rfl (aI trivial (aI trivial (aI trivial (aI trivial (aI (eI _ (aI rfl (.tail _ (.tail _ (.tail _ (.tail _ (.tail _ (.head _)))))))) (aI trivial trivial)))))) (GO.nil ?_)))))
     refine SX.seq (SX.seq ?_)
     refine SX.rr rfl ?_
     refine SX.condM rfl rfl hb (fun ht hb=>?_) (fun ht hb=>?_)
     ·refine SX.seq (SX.rr rfl (SX.rt ?_))
      exact eI _ (aI (ojs hb) (RetR.mk (vs:=[y8.2.av]) rfl (.agg (.cons .int (.cons .int .nil)))))
     ·refine SX.sk ?_
      refine SX.seq (SX.seq ?_)
      refine SX.rr rfl ?_
      refine SX.condM rfl rfl hb (fun ht hb=>?_) (fun ht hb=>?_)
      ·refine SX.seq (SX.rr rfl (SX.rt ?_))
       exact eI _ (aI (ojs hb) (RetR.mk (vs:=[((Diag.mk 42 n.pos)).av]) rfl (.agg (.cons .int (.cons .int .nil)))))
      ·refine SX.sk (SX.seq (SX.rr rfl ?_))
       obtain ⟨o18,ho18,hb⟩:=bindE hb
       refine SX.forget (al':=[(1,AV.vw 66 (env.map Var.av)),(3,AV.ptr 0 0 0 0),(5,AV.ptr 1 0 0 0),(6,AV.ptr 2 0 0 0),(8,AV.vw 2 (y3.params.map Param.av)),(9,AV.int .i64 s4),(10,AV.ptr 3 0 0 0),(12,AV.int .i64 0)]) (leA_of rfl) ?_
       refine SX.iter (fun (s9:Int) (g10:Unit)=>[(1,AV.vw 66 (env.map Var.av)),(3,AV.ptr 0 0 0 0),(5,AV.ptr 1 0 0 0),(6,AV.ptr 2 0 0 0),(8,AV.vw 2 (y3.params.map Param.av)),(9,AV.int .i64 s4),(10,AV.ptr 3 0 0 0),(12,AV.int .i64 s9)]) (fun (s9:Int) (g10:Unit)=>[ABlk.row 0 7 [vA v true],ABlk.row 0 5 [AV.agg (n.cells)],ABlk.row 0 2 [d0],ABlk.row 0 65 [y8.1.av],ABlk.row 0 2 [y8.2.av]]) (fun (x16:Unit) (g17:Unit)=>[(1,AV.vw 66 (env.map Var.av)),(3,AV.ptr 0 0 0 0),(5,AV.ptr 1 0 0 0),(6,AV.ptr 2 0 0 0),(8,AV.vw 2 (y3.params.map Param.av)),(9,AV.int .i64 s4)]) (fun (x16:Unit) (g17:Unit)=>[ABlk.row 0 7 [vA v true],ABlk.row 0 5 [AV.agg (n.cells)],ABlk.row 0 2 [d0],ABlk.row 0 65 [y8.1.av],ABlk.row 0 2 [y8.2.av]]) (fun r al df h=>RetR Tryz.prog Tryz.f285 (r.av) al df h) () ho18 rfl rfl ?_ ?_ ?_
       ·intro s9 g10 out11 hb
        refine SX.seq (SX.seq ?_)
        refine SX.rr rfl ?_
        refine SX.condM rfl rfl hb (fun ht hb=>?_) (fun ht hb=>?_)
        ·refine SX.sk (SX.seq (SX.block (SX.seq ?_)))
         obtain ⟨y12,hy12,hb⟩:=bindE hb
         obtain ⟨p14,hj,hb⟩:=bindE hb
         refine SX.join ([(1,AV.vw 66 (env.map Var.av)),(3,AV.ptr 0 0 0 0),(5,AV.ptr 1 0 0 0),(6,AV.ptr 2 0 0 0),(8,AV.vw 2 (y3.params.map Param.av)),(9,AV.int .i64 s4),(10,AV.ptr 3 0 0 0),(12,AV.int .i64 s9),(98,AV.bool p14)]) ([ABlk.row 0 7 [vA v true],ABlk.row 0 5 [AV.agg (n.cells)],ABlk.row 0 2 [d0],ABlk.row 0 65 [y8.1.av],ABlk.row 0 2 [y8.2.av]]) (SX.region ?_) ?_
         ·refine SOps.rn 2 rfl (SOps.light rfl rfl (lightV_idxA rfl rfl Tryz.underlying251 rfl rfl hy12) rdNone (SOps.light rfl rfl (lightV_bit (s:=y8.1) rfl rfl rfl rfl hy12) rdNone ?_))
          refine SOps.splitM rfl rfl rfl rdNone hj (fun hj=>?_) (fun hj=>?_)
          ·refine SOps.rn 3 rfl ?_
           obtain ⟨y13,hy13,hj⟩:=bindE hj
           refine SOps.light rfl rfl (lightV_idx (f:=Param.av) (xs:=y3.params) rfl rfl Tryz.underlying163 rfl hy13) rdNone (SOps.re rfl ?_)
           obtain rfl:=oj hj
           exact ⟨rfl,CutTo.sr rfl⟩
          ·refine SOps.re rfl ?_
           obtain rfl:=oj hj
           exact ⟨rfl,CutTo.sr rfl⟩
         refine SX.condM rfl rfl hb (fun ht hb=>?_) (fun ht hb=>?_)
         ·refine SX.seq (SX.rr rfl (SX.rt ?_))
          exact eI _ (aI (ojs hb) (RetR.mk (vs:=[((Diag.mk 43 n.pos)).av]) rfl (.agg (.cons .int (.cons .int .nil)))))
         ·refine SX.sk (SX.rr rfl ?_)
          exact eI _ (eI () (aI (ojs hb) (CutTo.sr rfl)))
        ·refine SX.ex ?_
         exact aI rfl (eI _ (eI () (aI (ojs hb) (CutTo.sr rfl))))
       ·intro x16 g17 he
        subst he
        refine SX.rr rfl ?_
        exact eI _ (eI () (aI (ojs hb) (CutTo.drop [_,_] (leA_of rfl) (Nat.le_of_ble_eq_true rfl) (aI (belowL_map fun _=>(Var.belowN _ _)) (aI (Nat.le_of_ble_eq_true rfl) (aI (Nat.le_of_ble_eq_true rfl) (aI (Nat.le_of_ble_eq_true rfl) (aI (belowL_map fun _=>(Param.belowN _ _)) (aI trivial trivial)))))) (aI (aI (aI (belowL_map fun _=>(Sort'.belowN _ _)) (aI (belowL_map fun _=>(Field.belowN _ _)) (aI (belowL_map fun _=>(Pred.belowN _ _)) (aI (belowL_map fun _=>(Fact.belowN _ _)) (aI (belowL_map fun _=>trivial) (aI trivial (aI trivial trivial))))))) trivial) (aI (aI (Node.cells_below _ _) trivial) (aI (aI (aI trivial (aI trivial trivial)) trivial) trivial))))))
       ·intro r al' df' h' hr hq
        subst hr
        exact eI _ (aI (ojs hb) hq)
    ·refine SX.ex ?_
     exact aI rfl (eI _ (eI () (aI (ojs hb) (CutTo.sr rfl))))
   ·intro x20 g21 he
    subst he
    refine SX.seq (SX.rr rfl (SX.rt ?_))
    obtain rfl:=oj hm
    exact RetRQ.mk (vs:=[((Diag.mk 0 0)).av]) rfl (.agg (.cons .int (.cons .int .nil)))
   ·intro r al' df' h' hr hq
    subst hr
    obtain rfl:=oj hm
    exact hq
def m286p (F:Nat) (m222_:View→List Var→Node→Option (Set'×Diag)) (v:View) (env:List Var) (n:Node):Option (Set'×Diag):=
 (bif (n.op == 15) then
 some (true)
 else
 some (v.inside)).bind fun p1=>
 (idx n.kids 0).bind fun y3=>
 (m222_ ((View.mk v.sp v.temp v.calls p1)) env y3).bind fun y4=>
 bif (y4.2.err != 0) then
 some (((Set'.mk 0 fun _=>false),y4.2))
 else
 bif (y4.1.arity != 1) then
 some (((Set'.mk 0 fun _=>false),(Diag.mk 42 n.pos)))
 else
 (app ([]:List Var) env).bind fun y5=>
 (app y5 ([(Var.mk n.name y4.1)])).bind fun y6=>
 (idx n.kids 1).bind fun y7=>
 (m222_ ((View.mk v.sp v.temp v.calls p1)) y6 y7).bind fun y8=>
 some ((y4.1,y8.2))
theorem c286p (F:Nat) (m222_:View→List Var→Node→Option (Set'×Diag)) (hc222_:∀ b0 b1 b2 r,m222_ b0 b1 b2 = some r→∀ h args0,ReadL h args0 [b0.av,AV.vw 66 (b1.map Var.av),AV.agg (b2.cells)]→ACall Tryz.prog 222 args0 h (.ret (AV.tup [r.1.av,r.2.av])) h) (v:View) (env:List Var) (n:Node) (res:(Set'×Diag)) (hm:m286p F m222_ v env n = some res) (h:List ABlk) (args0:List AV) (hargs:ReadL h args0 [v.av,AV.vw 66 (env.map Var.av),AV.agg (n.cells)]):ACall Tryz.prog 286 args0 h (.ret (AV.tup [res.1.av,res.2.av])) h:=by
 unfold m286p at hm
 refine ACall.mirR 0 Tryz.func286 rfl hargs (nlst rfl) ?_
 show SX _ _ _ 58 _ _ _ _
 refine SX.seq (SX.rr rfl ?_)
 refine SX.seq (SX.seq ?_)
 refine SX.rr rfl ?_
 obtain ⟨p1,hj,hm⟩:=bindE hm
 refine SX.join ([(1,AV.vw 66 (env.map Var.av)),(3,AV.ptr 0 0 0 0),(5,AV.ptr 1 0 0 0),(6,AV.ptr 2 0 0 0),(7,AV.ptr 3 0 0 0)]) ([ABlk.row 0 7 [vA v p1],ABlk.row 0 5 [AV.agg (n.cells)],ABlk.row 0 65 [e0],ABlk.row 0 2 [d0]]) (SX.condM rfl rfl hj (fun ht hj=>?_) (fun ht hj=>?_)) ?_
 ·refine SX.rr rfl ?_
  obtain rfl:=oj hj
  exact ⟨rfl,CutTo.sr rfl⟩
 ·refine SX.sk ?_
  obtain rfl:=oj hj
  exact ⟨rfl,CutTo.sr rfl⟩
 refine SX.seq ?_
 obtain ⟨y3,hy3,hm⟩:=bindE hm
 obtain ⟨y4,hy4,hm⟩:=bindE hm
 refine SX.drawG 15360 2 [(0,[ABlk.row 0 7 [vA v p1],ABlk.row 0 5 [AV.agg (n.cells)],ABlk.row 0 65 [e0],ABlk.row 0 2 [d0],ABlk.resv,ABlk.resv]),(1024,[ABlk.row 0 7 [vA v p1],ABlk.row 0 5 [AV.agg (n.cells)],ABlk.row 0 65 [e0],ABlk.row 0 2 [d0],ABlk.row 0 65 [e0],ABlk.resv]),(2048,[ABlk.row 0 7 [vA v p1],ABlk.row 0 5 [AV.agg (n.cells)],ABlk.row 0 65 [e0],ABlk.row 0 2 [d0],ABlk.resv,ABlk.row 0 2 [d0]]),(3072,[ABlk.row 0 7 [vA v p1],ABlk.row 0 5 [AV.agg (n.cells)],ABlk.row 0 65 [e0],ABlk.row 0 2 [d0],ABlk.row 0 65 [e0],ABlk.row 0 2 [d0]]),(7168,[ABlk.row 0 7 [vA v p1],ABlk.row 0 5 [AV.agg (n.cells)],ABlk.row 0 65 [e0],ABlk.row 0 2 [d0],ABlk.row 0 65 [y4.1.av],ABlk.row 0 2 [d0]]),(15360,[ABlk.row 0 7 [vA v p1],ABlk.row 0 5 [AV.agg (n.cells)],ABlk.row 0 65 [e0],ABlk.row 0 2 [d0],ABlk.row 0 65 [y4.1.av],ABlk.row 0 2 [y4.2.av]])] ([ABlk.row 0 7 [vA v p1],ABlk.row 0 5 [AV.agg (n.cells)],ABlk.row 0 65 [e0],ABlk.row 0 2 [d0],ABlk.row 0 65 [y4.1.av],ABlk.row 0 2 [y4.2.av]]) follows_mixed rfl rfl (.head _) (aI trivial (aI trivial (aI trivial (aI trivial (aI trivial (aI rfl trivial)))))) ?_
 iterate 4 refine GO.light (v:=_) rfl rfl rfl (aI rfl (aI rfl (aI rfl (aI rfl (aI trivial (aI trivial trivial)))))) ?_
 refine GO.light rfl rfl rfl (aI (lightV_idxN rfl rfl Tryz.underlying64 rfl hy3) (aI (lightV_idxN rfl rfl Tryz.underlying64 rfl hy3) (aI (lightV_idxN rfl rfl Tryz.underlying64 rfl hy3) (aI (lightV_idxN rfl rfl Tryz.underlying64 rfl hy3) (aI trivial (aI trivial trivial)))))) (GO.light (v:=_) rfl rfl rfl (aI rfl (aI rfl (aI rfl (aI rfl (aI trivial (aI trivial trivial)))))) (GO.call rfl rfl rfl rfl rfl rfl (aI (hc222_ ((View.mk v.sp v.temp v.calls p1)) env y3 y4 hy4 _ _ (.cons vRd (.cons (.apart (.vw (ApartL.map fun _ _=>(Var.apart _)))) (.cons (.apart (.agg (Node.cells_apart _))) .nil)))) (aI (hc222_ ((View.mk v.sp v.temp v.calls p1)) env y3 y4 hy4 _ _ (.cons vRd (.cons (.apart (.vw (ApartL.map fun _ _=>(Var.apart _)))) (.cons (.apart (.agg (Node.cells_apart _))) .nil)))) (aI (hc222_ ((View.mk v.sp v.temp v.calls p1)) env y3 y4 hy4 _ _ (.cons vRd (.cons (.apart (.vw (ApartL.map fun _ _=>(Var.apart _)))) (.cons (.apart (.agg (Node.cells_apart _))) .nil)))) (aI (hc222_ ((View.mk v.sp v.temp v.calls p1)) env y3 y4 hy4 _ _ (.cons vRd (.cons (.apart (.vw (ApartL.map fun _ _=>(Var.apart _)))) (.cons (.apart (.agg (Node.cells_apart _))) .nil)))) (aI trivial (aI trivial trivial)))))) ?_))
 iterate 2 refine GO.light (v:=_) rfl rfl rfl (aI rfl (aI rfl (aI rfl (aI rfl (aI trivial (aI trivial trivial)))))) ?_
 refine GO.light (v:=_) rfl rfl rfl (aI rfl (aI rfl (aI rfl (aI rfl (aI rfl (aI trivial trivial)))))) (GO.fill (b:=4) (v:=_) rfl rfl rfl (aI (eI _ (aI rfl (.tail _ (.head _)))) (aI trivial (aI (eI _ (aI rfl (.tail _ (.tail _ (.tail _ (.head _)))))) (aI trivial (aI trivial (aI trivial trivial)))))) (GO.fill (b:=5) (v:=_) rfl rfl rfl (aI (eI _ (aI rfl (.tail _ (.tail _ (.head _))))) (aI (eI _ (aI rfl (.tail _ (.tail _ (.tail _ (.head _)))))) (aI trivial (aI trivial (aI trivial (aI trivial trivial)))))) (GO.heavy (v:=_) rfl rfl rfl (aI trivial (aI trivial (aI trivial (aI (eI _ (aI rfl (.tail _ (.tail _ (.tail _ (.tail _ (.head _))))))) (aI trivial (aI trivial trivial)))))) (GO.heavy (v:=_) rfl rfl rfl (aI trivial (aI trivial (aI trivial (aI trivial (aI (eI _ (aI rfl (.tail _ (.tail _ (.tail _ (.tail _ (.tail _ (.head _)))))))) (aI trivial trivial)))))) (GO.nil ?_)))))
 refine SX.seq (SX.seq ?_)
 refine SX.rr rfl ?_
 refine SX.condM rfl rfl hm (fun ht hm=>?_) (fun ht hm=>?_)
 ·refine SX.seq (SX.drawG 12 0 [(0,[ABlk.row 0 7 [vA v p1],ABlk.row 0 5 [AV.agg (n.cells)],ABlk.row 0 65 [e0],ABlk.row 0 2 [d0],ABlk.row 0 65 [y4.1.av],ABlk.row 0 2 [y4.2.av]]),(4,[ABlk.row 0 7 [vA v p1],ABlk.row 0 5 [AV.agg (n.cells)],ABlk.row 0 65 [e0],ABlk.row 0 2 [d0],ABlk.row 0 65 [y4.1.av],ABlk.row 0 2 [y4.2.av]]),(12,[ABlk.row 0 7 [vA v p1],ABlk.row 0 5 [AV.agg (n.cells)],ABlk.row 0 65 [e0],ABlk.row 0 2 [y4.2.av],ABlk.row 0 65 [y4.1.av],ABlk.row 0 2 [y4.2.av]])] ([ABlk.row 0 7 [vA v p1],ABlk.row 0 5 [AV.agg (n.cells)],ABlk.row 0 65 [e0],ABlk.row 0 2 [y4.2.av],ABlk.row 0 65 [y4.1.av],ABlk.row 0 2 [y4.2.av]]) follows_mixed rfl rfl (.head _) (aI trivial (aI trivial (aI rfl trivial))) (GO.light (v:=_) rfl rfl rfl (aI rfl (aI trivial (aI trivial trivial))) (GO.light (v:=_) rfl rfl rfl (aI rfl (aI rfl (aI trivial trivial))) (GO.heavy (v:=_) rfl rfl rfl (aI (eI _ (aI rfl (.tail _ (.head _)))) (aI trivial (aI trivial trivial))) (GO.heavy (v:=_) rfl rfl rfl (aI trivial (aI (eI _ (aI rfl (.tail _ (.tail _ (.head _))))) (aI trivial trivial))) (GO.nil (SX.rt ?_)))))))
  obtain rfl:=oj hm
  exact RetRQ.mk (vs:=[((Set'.mk 0 fun _=>false)).av,y4.2.av]) rfl (.tup (.cons (Set'.fresh _) (.cons (.agg (.cons .int (.cons .int .nil))) .nil)))
 ·refine SX.sk ?_
  refine SX.seq (SX.seq ?_)
  refine SX.rr rfl ?_
  refine SX.condM rfl rfl hm (fun ht hm=>?_) (fun ht hm=>?_)
  ·refine SX.seq (SX.drawG 48 0 [(0,[ABlk.row 0 7 [vA v p1],ABlk.row 0 5 [AV.agg (n.cells)],ABlk.row 0 65 [e0],ABlk.row 0 2 [d0],ABlk.row 0 65 [y4.1.av],ABlk.row 0 2 [y4.2.av]]),(16,[ABlk.row 0 7 [vA v p1],ABlk.row 0 5 [AV.agg (n.cells)],ABlk.row 0 65 [e0],ABlk.row 0 2 [d0],ABlk.row 0 65 [y4.1.av],ABlk.row 0 2 [y4.2.av]]),(48,[ABlk.row 0 7 [vA v p1],ABlk.row 0 5 [AV.agg (n.cells)],ABlk.row 0 65 [e0],ABlk.row 0 2 [((Diag.mk 42 n.pos)).av],ABlk.row 0 65 [y4.1.av],ABlk.row 0 2 [y4.2.av]])] ([ABlk.row 0 7 [vA v p1],ABlk.row 0 5 [AV.agg (n.cells)],ABlk.row 0 65 [e0],ABlk.row 0 2 [((Diag.mk 42 n.pos)).av],ABlk.row 0 65 [y4.1.av],ABlk.row 0 2 [y4.2.av]]) follows_mixed rfl rfl (.head _) (aI trivial (aI trivial (aI rfl trivial))) (GO.light (v:=_) rfl rfl rfl (aI rfl (aI trivial (aI trivial trivial))) ?_))
   iterate 3 refine GO.light (v:=_) rfl rfl rfl (aI rfl (aI rfl (aI trivial trivial))) ?_
   refine GO.heavy (v:=_) rfl rfl rfl (aI (eI _ (aI rfl (.tail _ (.head _)))) (aI trivial (aI trivial trivial))) (GO.heavy (v:=_) rfl rfl rfl (aI trivial (aI (eI _ (aI rfl (.tail _ (.tail _ (.head _))))) (aI trivial trivial))) (GO.nil (SX.rt ?_)))
   obtain rfl:=oj hm
   exact RetRQ.mk (vs:=[((Set'.mk 0 fun _=>false)).av,((Diag.mk 42 n.pos)).av]) rfl (.tup (.cons (Set'.fresh _) (.cons (.agg (.cons .int (.cons .int .nil))) .nil)))
  ·refine SX.sk (SX.seq ?_)
   obtain ⟨y5,hy5,hm⟩:=bindE hm
   obtain ⟨y6,hy6,hm⟩:=bindE hm
   obtain ⟨y7,hy7,hm⟩:=bindE hm
   obtain ⟨y8,hy8,hm⟩:=bindE hm
   refine SX.drawG 3932680 3 [(0,[ABlk.row 0 7 [vA v p1],ABlk.row 0 5 [AV.agg (n.cells)],ABlk.row 0 65 [e0],ABlk.row 0 2 [d0],ABlk.row 0 65 [y4.1.av],ABlk.row 0 2 [y4.2.av],ABlk.resv,ABlk.resv,ABlk.resv]),(8,[ABlk.row 0 7 [vA v p1],ABlk.row 0 5 [AV.agg (n.cells)],ABlk.row 0 65 [e0],ABlk.row 0 2 [d0],ABlk.row 0 65 [y4.1.av],ABlk.row 0 2 [y4.2.av],oblk 66 0 (y5.map Var.av),ABlk.resv,ABlk.resv]),(262144,[ABlk.row 0 7 [vA v p1],ABlk.row 0 5 [AV.agg (n.cells)],ABlk.row 0 65 [e0],ABlk.row 0 2 [d0],ABlk.row 0 65 [y4.1.av],ABlk.row 0 2 [y4.2.av],ABlk.resv,ABlk.row 0 65 [e0],ABlk.resv]),(524288,[ABlk.row 0 7 [vA v p1],ABlk.row 0 5 [AV.agg (n.cells)],ABlk.row 0 65 [e0],ABlk.row 0 2 [d0],ABlk.row 0 65 [y4.1.av],ABlk.row 0 2 [y4.2.av],ABlk.resv,ABlk.resv,ABlk.row 0 2 [d0]]),(520,[ABlk.row 0 7 [vA v p1],ABlk.row 0 5 [AV.agg (n.cells)],ABlk.row 0 65 [e0],ABlk.row 0 2 [d0],ABlk.row 0 65 [y4.1.av],ABlk.row 0 2 [y4.2.av],oblk 66 ((gen2 y5)) (y6.map Var.av),ABlk.resv,ABlk.resv]),(262152,[ABlk.row 0 7 [vA v p1],ABlk.row 0 5 [AV.agg (n.cells)],ABlk.row 0 65 [e0],ABlk.row 0 2 [d0],ABlk.row 0 65 [y4.1.av],ABlk.row 0 2 [y4.2.av],oblk 66 0 (y5.map Var.av),ABlk.row 0 65 [e0],ABlk.resv]),(524296,[ABlk.row 0 7 [vA v p1],ABlk.row 0 5 [AV.agg (n.cells)],ABlk.row 0 65 [e0],ABlk.row 0 2 [d0],ABlk.row 0 65 [y4.1.av],ABlk.row 0 2 [y4.2.av],oblk 66 0 (y5.map Var.av),ABlk.resv,ABlk.row 0 2 [d0]]),(786432,[ABlk.row 0 7 [vA v p1],ABlk.row 0 5 [AV.agg (n.cells)],ABlk.row 0 65 [e0],ABlk.row 0 2 [d0],ABlk.row 0 65 [y4.1.av],ABlk.row 0 2 [y4.2.av],ABlk.resv,ABlk.row 0 65 [e0],ABlk.row 0 2 [d0]]),(262664,[ABlk.row 0 7 [vA v p1],ABlk.row 0 5 [AV.agg (n.cells)],ABlk.row 0 65 [e0],ABlk.row 0 2 [d0],ABlk.row 0 65 [y4.1.av],ABlk.row 0 2 [y4.2.av],oblk 66 ((gen2 y5)) (y6.map Var.av),ABlk.row 0 65 [e0],ABlk.resv]),(524808,[ABlk.row 0 7 [vA v p1],ABlk.row 0 5 [AV.agg (n.cells)],ABlk.row 0 65 [e0],ABlk.row 0 2 [d0],ABlk.row 0 65 [y4.1.av],ABlk.row 0 2 [y4.2.av],oblk 66 ((gen2 y5)) (y6.map Var.av),ABlk.resv,ABlk.row 0 2 [d0]]),(786440,[ABlk.row 0 7 [vA v p1],ABlk.row 0 5 [AV.agg (n.cells)],ABlk.row 0 65 [e0],ABlk.row 0 2 [d0],ABlk.row 0 65 [y4.1.av],ABlk.row 0 2 [y4.2.av],oblk 66 0 (y5.map Var.av),ABlk.row 0 65 [e0],ABlk.row 0 2 [d0]]),(786952,[ABlk.row 0 7 [vA v p1],ABlk.row 0 5 [AV.agg (n.cells)],ABlk.row 0 65 [e0],ABlk.row 0 2 [d0],ABlk.row 0 65 [y4.1.av],ABlk.row 0 2 [y4.2.av],oblk 66 ((gen2 y5)) (y6.map Var.av),ABlk.row 0 65 [e0],ABlk.row 0 2 [d0]]),(1835528,[ABlk.row 0 7 [vA v p1],ABlk.row 0 5 [AV.agg (n.cells)],ABlk.row 0 65 [e0],ABlk.row 0 2 [d0],ABlk.row 0 65 [y4.1.av],ABlk.row 0 2 [y4.2.av],oblk 66 ((gen2 y5)) (y6.map Var.av),ABlk.row 0 65 [y8.1.av],ABlk.row 0 2 [d0]]),(3932680,[ABlk.row 0 7 [vA v p1],ABlk.row 0 5 [AV.agg (n.cells)],ABlk.row 0 65 [e0],ABlk.row 0 2 [d0],ABlk.row 0 65 [y4.1.av],ABlk.row 0 2 [y4.2.av],oblk 66 ((gen2 y5)) (y6.map Var.av),ABlk.row 0 65 [y8.1.av],ABlk.row 0 2 [y8.2.av]])] ([ABlk.row 0 7 [vA v p1],ABlk.row 0 5 [AV.agg (n.cells)],ABlk.row 0 65 [e0],ABlk.row 0 2 [d0],ABlk.row 0 65 [y4.1.av],ABlk.row 0 2 [y4.2.av],oblk 66 ((gen2 y5)) (y6.map Var.av),ABlk.row 0 65 [y8.1.av],ABlk.row 0 2 [y8.2.av]]) follows_mixed rfl rfl (.head _) (aI trivial (aI trivial (aI trivial (aI trivial (aI trivial (aI trivial (aI trivial (aI trivial (aI trivial (aI trivial (aI trivial (aI trivial (aI trivial (aI rfl trivial)))))))))))))) (GO.light (v:=_) rfl rfl rfl (aI rfl (aI rfl (aI rfl (aI rfl (aI rfl (aI rfl (aI rfl (aI rfl (aI rfl (aI rfl (aI rfl (aI rfl (aI trivial (aI trivial trivial)))))))))))))) (GO.heavy0 (v:=_) rfl rfl rfl (aI rfl (aI trivial (aI rfl (aI rfl (aI trivial (aI trivial (aI trivial (aI rfl (aI trivial (aI trivial (aI trivial (aI trivial (aI trivial (aI trivial trivial)))))))))))))) (GO.light (v:=_) rfl rfl rfl (aI rfl (aI trivial (aI rfl (aI rfl (aI trivial (aI trivial (aI trivial (aI rfl (aI trivial (aI trivial (aI trivial (aI trivial (aI trivial (aI trivial trivial)))))))))))))) (GO.appA (f:=Var.av) (us:=env) (zs:=y5) 6 rfl rfl rfl rfl rfl rfl rfl rfl rfl rfl hy5 (aI (aI rfl (.tail _ (.head _))) (aI trivial (aI (aI rfl (.tail _ (.tail _ (.tail _ (.tail _ (.tail _ (.head _))))))) (aI (aI rfl (.tail _ (.tail _ (.tail _ (.tail _ (.tail _ (.tail _ (.head _)))))))) (aI trivial (aI trivial (aI trivial (aI (aI rfl (.tail _ (.tail _ (.tail _ (.tail _ (.tail _ (.tail _ (.tail _ (.tail _ (.tail _ (.tail _ (.head _)))))))))))) (aI trivial (aI trivial (aI trivial (aI trivial (aI trivial (aI trivial trivial)))))))))))))) ?_))))
   iterate 4 refine GO.light (v:=_) rfl rfl rfl (aI rfl (aI rfl (aI rfl (aI rfl (aI trivial (aI rfl (aI rfl (aI rfl (aI trivial (aI trivial (aI rfl (aI trivial (aI trivial (aI trivial trivial)))))))))))))) ?_
   refine GO.heavy0 (v:=_) rfl rfl rfl (aI rfl (aI rfl (aI rfl (aI rfl (aI trivial (aI rfl (aI rfl (aI rfl (aI trivial (aI trivial (aI rfl (aI trivial (aI trivial (aI trivial trivial)))))))))))))) (GO.appB (f:=Var.av) (us:=y5) (ws:=[(Var.mk n.name y4.1)]) (zs:=y6) 6 rfl rfl rfl rfl rfl rfl rfl rfl (fun _=>rfl) (List.cons_ne_nil _ _) (fun _=>rfl) rfl hy6 (aI trivial (aI (aI rfl (.tail _ (.tail _ (.tail _ (.tail _ (.head _)))))) (aI trivial (aI trivial (aI trivial (aI (aI rfl (.tail _ (.tail _ (.tail _ (.tail _ (.tail _ (.tail _ (.tail _ (.tail _ (.head _)))))))))) (aI (aI rfl (.tail _ (.tail _ (.tail _ (.tail _ (.tail _ (.tail _ (.tail _ (.tail _ (.tail _ (.head _))))))))))) (aI trivial (aI trivial (aI trivial (aI (aI rfl (.tail _ (.tail _ (.tail _ (.tail _ (.tail _ (.tail _ (.tail _ (.tail _ (.tail _ (.tail _ (.tail _ (.head _))))))))))))) (aI trivial (aI trivial (aI trivial trivial)))))))))))))) ?_)
   iterate 2 refine GO.light (v:=_) rfl rfl rfl (aI rfl (aI rfl (aI rfl (aI rfl (aI rfl (aI rfl (aI rfl (aI rfl (aI rfl (aI rfl (aI rfl (aI rfl (aI trivial (aI trivial trivial)))))))))))))) ?_
   refine GO.light rfl rfl rfl (aI (lightV_idxN rfl rfl Tryz.underlying64 rfl hy7) (aI (lightV_idxN rfl rfl Tryz.underlying64 rfl hy7) (aI (lightV_idxN rfl rfl Tryz.underlying64 rfl hy7) (aI (lightV_idxN rfl rfl Tryz.underlying64 rfl hy7) (aI (lightV_idxN rfl rfl Tryz.underlying64 rfl hy7) (aI (lightV_idxN rfl rfl Tryz.underlying64 rfl hy7) (aI (lightV_idxN rfl rfl Tryz.underlying64 rfl hy7) (aI (lightV_idxN rfl rfl Tryz.underlying64 rfl hy7) (aI (lightV_idxN rfl rfl Tryz.underlying64 rfl hy7) (aI (lightV_idxN rfl rfl Tryz.underlying64 rfl hy7) (aI (lightV_idxN rfl rfl Tryz.underlying64 rfl hy7) (aI (lightV_idxN rfl rfl Tryz.underlying64 rfl hy7) (aI trivial (aI trivial trivial)))))))))))))) (GO.light (v:=_) rfl rfl rfl (aI rfl (aI rfl (aI rfl (aI rfl (aI rfl (aI rfl (aI rfl (aI rfl (aI rfl (aI rfl (aI rfl (aI rfl (aI trivial (aI trivial trivial)))))))))))))) (GO.call rfl rfl rfl rfl rfl rfl (aI trivial (aI trivial (aI trivial (aI trivial (aI (hc222_ ((View.mk v.sp v.temp v.calls p1)) y6 y7 y8 hy8 _ _ (.cons vRd (.cons (.osl rfl (ApartL.map fun _ _=>(Var.apart _))) (.cons (.apart (.agg (Node.cells_apart _))) .nil)))) (aI trivial (aI trivial (aI trivial (aI (hc222_ ((View.mk v.sp v.temp v.calls p1)) y6 y7 y8 hy8 _ _ (.cons vRd (.cons (.osl rfl (ApartL.map fun _ _=>(Var.apart _))) (.cons (.apart (.agg (Node.cells_apart _))) .nil)))) (aI (hc222_ ((View.mk v.sp v.temp v.calls p1)) y6 y7 y8 hy8 _ _ (.cons vRd (.cons (.osl rfl (ApartL.map fun _ _=>(Var.apart _))) (.cons (.apart (.agg (Node.cells_apart _))) .nil)))) (aI trivial (aI (hc222_ ((View.mk v.sp v.temp v.calls p1)) y6 y7 y8 hy8 _ _ (.cons vRd (.cons (.osl rfl (ApartL.map fun _ _=>(Var.apart _))) (.cons (.apart (.agg (Node.cells_apart _))) .nil)))) (aI trivial (aI trivial trivial)))))))))))))) ?_))
   iterate 2 refine GO.light (v:=_) rfl rfl rfl (aI trivial (aI trivial (aI trivial (aI trivial (aI rfl (aI trivial (aI trivial (aI trivial (aI rfl (aI rfl (aI trivial (aI rfl (aI trivial (aI trivial trivial)))))))))))))) ?_
   refine GO.light (v:=_) rfl rfl rfl (aI trivial (aI trivial (aI trivial (aI trivial (aI rfl (aI trivial (aI trivial (aI trivial (aI rfl (aI rfl (aI trivial (aI rfl (aI rfl (aI trivial trivial)))))))))))))) (GO.fill (b:=7) (v:=_) rfl rfl rfl (aI (eI _ (aI rfl (.tail _ (.tail _ (.head _))))) (aI (eI _ (aI rfl (.tail _ (.tail _ (.tail _ (.tail _ (.tail _ (.head _)))))))) (aI trivial (aI (eI _ (aI rfl (.tail _ (.tail _ (.tail _ (.tail _ (.tail _ (.tail _ (.tail _ (.head _)))))))))) (aI (eI _ (aI rfl (.tail _ (.tail _ (.tail _ (.tail _ (.tail _ (.tail _ (.tail _ (.tail _ (.head _))))))))))) (aI trivial (aI (eI _ (aI rfl (.tail _ (.tail _ (.tail _ (.tail _ (.tail _ (.tail _ (.tail _ (.tail _ (.tail _ (.tail _ (.head _))))))))))))) (aI trivial (aI trivial (aI (eI _ (aI rfl (.tail _ (.tail _ (.tail _ (.tail _ (.tail _ (.tail _ (.tail _ (.tail _ (.tail _ (.tail _ (.tail _ (.head _)))))))))))))) (aI trivial (aI trivial (aI trivial (aI trivial trivial)))))))))))))) (GO.fill (b:=8) (v:=_) rfl rfl rfl (aI (eI _ (aI rfl (.tail _ (.tail _ (.tail _ (.head _)))))) (aI (eI _ (aI rfl (.tail _ (.tail _ (.tail _ (.tail _ (.tail _ (.tail _ (.head _))))))))) (aI (eI _ (aI rfl (.tail _ (.tail _ (.tail _ (.tail _ (.tail _ (.tail _ (.tail _ (.head _)))))))))) (aI trivial (aI (eI _ (aI rfl (.tail _ (.tail _ (.tail _ (.tail _ (.tail _ (.tail _ (.tail _ (.tail _ (.tail _ (.head _)))))))))))) (aI (eI _ (aI rfl (.tail _ (.tail _ (.tail _ (.tail _ (.tail _ (.tail _ (.tail _ (.tail _ (.tail _ (.tail _ (.head _))))))))))))) (aI trivial (aI trivial (aI (eI _ (aI rfl (.tail _ (.tail _ (.tail _ (.tail _ (.tail _ (.tail _ (.tail _ (.tail _ (.tail _ (.tail _ (.tail _ (.head _)))))))))))))) (aI trivial (aI trivial (aI trivial (aI trivial (aI trivial trivial)))))))))))))) (GO.heavy (v:=_) rfl rfl rfl (aI trivial (aI trivial (aI trivial (aI trivial (aI trivial (aI trivial (aI trivial (aI trivial (aI trivial (aI trivial (aI trivial (aI (eI _ (aI rfl (.tail _ (.tail _ (.tail _ (.tail _ (.tail _ (.tail _ (.tail _ (.tail _ (.tail _ (.tail _ (.tail _ (.tail _ (.head _))))))))))))))) (aI trivial (aI trivial trivial)))))))))))))) (GO.heavy (v:=_) rfl rfl rfl (aI trivial (aI trivial (aI trivial (aI trivial (aI trivial (aI trivial (aI trivial (aI trivial (aI trivial (aI trivial (aI trivial (aI trivial (aI (eI _ (aI rfl (.tail _ (.tail _ (.tail _ (.tail _ (.tail _ (.tail _ (.tail _ (.tail _ (.tail _ (.tail _ (.tail _ (.tail _ (.tail _ (.head _)))))))))))))))) (aI trivial trivial)))))))))))))) (GO.nil (SX.seq (SX.drawG 12 0 [(0,[ABlk.row 0 7 [vA v p1],ABlk.row 0 5 [AV.agg (n.cells)],ABlk.row 0 65 [e0],ABlk.row 0 2 [d0],ABlk.row 0 65 [y4.1.av],ABlk.row 0 2 [y4.2.av],oblk 66 ((gen2 y5)) (y6.map Var.av),ABlk.row 0 65 [y8.1.av],ABlk.row 0 2 [y8.2.av]]),(4,[ABlk.row 0 7 [vA v p1],ABlk.row 0 5 [AV.agg (n.cells)],ABlk.row 0 65 [y4.1.av],ABlk.row 0 2 [d0],ABlk.row 0 65 [y4.1.av],ABlk.row 0 2 [y4.2.av],oblk 66 ((gen2 y5)) (y6.map Var.av),ABlk.row 0 65 [y8.1.av],ABlk.row 0 2 [y8.2.av]]),(12,[ABlk.row 0 7 [vA v p1],ABlk.row 0 5 [AV.agg (n.cells)],ABlk.row 0 65 [y4.1.av],ABlk.row 0 2 [y8.2.av],ABlk.row 0 65 [y4.1.av],ABlk.row 0 2 [y4.2.av],oblk 66 ((gen2 y5)) (y6.map Var.av),ABlk.row 0 65 [y8.1.av],ABlk.row 0 2 [y8.2.av]])] ([ABlk.row 0 7 [vA v p1],ABlk.row 0 5 [AV.agg (n.cells)],ABlk.row 0 65 [y4.1.av],ABlk.row 0 2 [y8.2.av],ABlk.row 0 65 [y4.1.av],ABlk.row 0 2 [y4.2.av],oblk 66 ((gen2 y5)) (y6.map Var.av),ABlk.row 0 65 [y8.1.av],ABlk.row 0 2 [y8.2.av]]) follows_mixed rfl rfl (.head _) (aI trivial (aI trivial (aI rfl trivial))) (GO.light (v:=_) rfl rfl rfl (aI rfl (aI trivial (aI trivial trivial))) (GO.light (v:=_) rfl rfl rfl (aI rfl (aI rfl (aI trivial trivial))) ?_)))))))))
   refine GO.heavy (v:=_) rfl rfl rfl (aI (eI _ (aI rfl (.tail _ (.head _)))) (aI trivial (aI trivial trivial))) (GO.heavy (v:=_) rfl rfl rfl (aI trivial (aI (eI _ (aI rfl (.tail _ (.tail _ (.head _))))) (aI trivial trivial))) (GO.nil (SX.rt ?_)))
   obtain rfl:=oj hm
   exact RetRQ.mk (vs:=[y4.1.av,y8.2.av]) rfl (.tup (.cons (Set'.fresh _) (.cons (.agg (.cons .int (.cons .int .nil))) .nil)))
def m222p (F:Nat) (m222_:View→List Var→Node→Option (Set'×Diag)) (m285_:View→List Var→Node→Option Diag) (m286_:View→List Var→Node→Option (Set'×Diag)) (v:View) (env:List Var) (n:Node):Option (Set'×Diag):=
 (bif v.inside then
 (m282 F n.op).bind fun y1=>
 bif y1 then
 some (true)
 else
 bif (n.op == 47) then
 (m283 F v.sp v.temp v.calls n.name).bind fun y2=>
 some (y2)
 else
 some (false)
 else
 some (false)).bind fun p3=>
 bif p3 then
 some (((Set'.mk 0 fun _=>false),(Diag.mk 46 n.pos)))
 else
 bif (n.op == 1) then
 (m284 F v env n).bind fun y5=>
 some ((y5.1,y5.2))
 else
 bif (n.op == 47) then
 (m285_ v env n).bind fun y6=>
 some (((Set'.mk 0 fun _=>false),y6))
 else
 (bif (n.op == 15) then
 some ((n.op == 15))
 else
 bif (n.op == 45) then
 some ((n.op == 45))
 else
 some ((n.op == 46))).bind fun p7=>
 bif p7 then
 (m286_ v env n).bind fun y9=>
 some ((y9.1,y9.2))
 else
 (bif (n.op == 12) then
 some ((n.op == 12))
 else
 some ((n.op == 13))).bind fun p10=>
 bif p10 then
 (runs (fun (s12:Int×List Set')=>
 (bif decide (s12.1 < (n.kids.length:Int)) then
 (idx n.kids s12.1).bind fun y15=>
 (m222_ ((View.mk v.sp v.temp v.calls true)) env y15).bind fun y16=>
 bif (y16.2.err != 0) then
 some (Out.ret (((Set'.mk 0 fun _=>false),y16.2)))
 else
 (app s12.2 ([y16.1])).bind fun y17=>
 some (Out.next (w64 (s12.1 + 1),y17))
 else
 some (Out.exit (s12.2)):Option (Out (Int×List Set') (List Set') (Set'×Diag)))) F (0,[])).bind fun (o21:(List Set') ⊕ (Set'×Diag))=>(match o21 with
 | .inl x19=>
 (m287 F v.sp n x19).bind fun y22=>
 bif (!y22.2) then
 some (((Set'.mk 0 fun _=>false),(Diag.mk 42 n.pos)))
 else
 some ((y22.1,(Diag.mk 0 0)))
 | .inr r23=>some r23)
 else
 (runs (fun (s24:Int×List Set')=>
 (bif decide (s24.1 < (n.kids.length:Int)) then
 (idx n.kids s24.1).bind fun y27=>
 (m222_ v env y27).bind fun y28=>
 bif (y28.2.err != 0) then
 some (Out.ret (((Set'.mk 0 fun _=>false),y28.2)))
 else
 (app s24.2 ([y28.1])).bind fun y29=>
 some (Out.next (w64 (s24.1 + 1),y29))
 else
 some (Out.exit (s24.2)):Option (Out (Int×List Set') (List Set') (Set'×Diag)))) F (0,[])).bind fun (o33:(List Set') ⊕ (Set'×Diag))=>(match o33 with
 | .inl x31=>
 (m287 F v.sp n x31).bind fun y34=>
 bif (!y34.2) then
 some (((Set'.mk 0 fun _=>false),(Diag.mk 42 n.pos)))
 else
 some ((y34.1,(Diag.mk 0 0)))
 | .inr r35=>some r35)
theorem c222p (F:Nat) (m222_:View→List Var→Node→Option (Set'×Diag)) (m285_:View→List Var→Node→Option Diag) (m286_:View→List Var→Node→Option (Set'×Diag)) (hc222_:∀ b0 b1 b2 r,m222_ b0 b1 b2 = some r→∀ h args0,ReadL h args0 [b0.av,AV.vw 66 (b1.map Var.av),AV.agg (b2.cells)]→ACall Tryz.prog 222 args0 h (.ret (AV.tup [r.1.av,r.2.av])) h) (hc285_:∀ b0 b1 b2 r,m285_ b0 b1 b2 = some r→∀ h args0,ReadL h args0 [b0.av,AV.vw 66 (b1.map Var.av),AV.agg (b2.cells)]→ACall Tryz.prog 285 args0 h (.ret (r.av)) h) (hc286_:∀ b0 b1 b2 r,m286_ b0 b1 b2 = some r→∀ h args0,ReadL h args0 [b0.av,AV.vw 66 (b1.map Var.av),AV.agg (b2.cells)]→ACall Tryz.prog 286 args0 h (.ret (AV.tup [r.1.av,r.2.av])) h) (v:View) (env:List Var) (n:Node) (res:(Set'×Diag)) (hm:m222p F m222_ m285_ m286_ v env n = some res) (h:List ABlk) (args0:List AV) (hargs:ReadL h args0 [v.av,AV.vw 66 (env.map Var.av),AV.agg (n.cells)]):ACall Tryz.prog 222 args0 h (.ret (AV.tup [res.1.av,res.2.av])) h:=by
 unfold m222p at hm
 refine ACall.mirR 1 Tryz.func222 rfl hargs (nlst rfl) ?_
 show SX _ _ _ 115 _ _ _ _
 refine SX.seq (SX.rr rfl ?_)
 refine SX.seq (SX.seq ?_)
 obtain ⟨p3,hj,hm⟩:=bindE hm
 refine SX.join ([(1,AV.vw 66 (env.map Var.av)),(3,AV.ptr 1 0 0 0),(5,AV.ptr 2 0 0 0),(6,AV.ptr 3 0 0 0),(7,AV.ptr 4 0 0 0),(36,AV.bool p3)]) ([oblk 65 0 (([]).map Set'.av),ABlk.row 0 7 [v.av],ABlk.row 0 5 [AV.agg (n.cells)],ABlk.row 0 65 [e0],ABlk.row 0 2 [d0]]) (SX.region ?_) ?_
 ·refine SOps.rn 2 rfl ?_
  refine SOps.splitM rfl rfl rfl rdNone hj (fun hj=>?_) (fun hj=>?_)
  ·refine SOps.rn 2 rfl ?_
   obtain ⟨y1,hy1,hj⟩:=bindE hj
   refine SOps.call rfl rfl rfl rfl rfl (c282 F n.op y1 hy1 _) rdNone ?_
   refine SOps.splitM rfl rfl rfl rdNone hj (fun hj=>?_) (fun hj=>?_)
   ·refine SOps.re rfl ?_
    obtain rfl:=oj hj
    exact ⟨rfl,CutTo.sr rfl⟩
   ·refine SOps.rn 3 rfl ?_
    refine SOps.splitM rfl rfl rfl rdNone hj (fun hj=>?_) (fun hj=>?_)
    ·refine SOps.rn 8 rfl ?_
     obtain ⟨y2,hy2,hj⟩:=bindE hj
     refine SOps.call rfl rfl rfl rfl rfl (c283 F v.sp v.temp v.calls n.name y2 hy2 _) rdNone (SOps.re rfl ?_)
     obtain rfl:=oj hj
     exact ⟨rfl,CutTo.sr rfl⟩
    ·refine SOps.re rfl ?_
     obtain rfl:=oj hj
     exact ⟨rfl,CutTo.sr rfl⟩
  ·refine SOps.re rfl ?_
   obtain rfl:=oj hj
   exact ⟨rfl,CutTo.sr rfl⟩
 refine SX.condM rfl rfl hm (fun ht hm=>?_) (fun ht hm=>?_)
 ·refine SX.seq (SX.drawG 48 0 [(0,[oblk 65 0 (([]).map Set'.av),ABlk.row 0 7 [v.av],ABlk.row 0 5 [AV.agg (n.cells)],ABlk.row 0 65 [e0],ABlk.row 0 2 [d0]]),(16,[oblk 65 0 (([]).map Set'.av),ABlk.row 0 7 [v.av],ABlk.row 0 5 [AV.agg (n.cells)],ABlk.row 0 65 [e0],ABlk.row 0 2 [d0]]),(48,[oblk 65 0 (([]).map Set'.av),ABlk.row 0 7 [v.av],ABlk.row 0 5 [AV.agg (n.cells)],ABlk.row 0 65 [e0],ABlk.row 0 2 [((Diag.mk 46 n.pos)).av]])] ([oblk 65 0 (([]).map Set'.av),ABlk.row 0 7 [v.av],ABlk.row 0 5 [AV.agg (n.cells)],ABlk.row 0 65 [e0],ABlk.row 0 2 [((Diag.mk 46 n.pos)).av]]) follows_mixed rfl rfl (.head _) (aI trivial (aI trivial (aI rfl trivial))) (GO.light (v:=_) rfl rfl rfl (aI rfl (aI trivial (aI trivial trivial))) ?_))
  iterate 3 refine GO.light (v:=_) rfl rfl rfl (aI rfl (aI rfl (aI trivial trivial))) ?_
  refine GO.heavy (v:=_) rfl rfl rfl (aI (eI _ (aI rfl (.tail _ (.head _)))) (aI trivial (aI trivial trivial))) (GO.heavy (v:=_) rfl rfl rfl (aI trivial (aI (eI _ (aI rfl (.tail _ (.tail _ (.head _))))) (aI trivial trivial))) (GO.nil (SX.rt ?_)))
  obtain rfl:=oj hm
  exact RetRQ.mk (vs:=[((Set'.mk 0 fun _=>false)).av,((Diag.mk 46 n.pos)).av]) rfl (.tup (.cons (Set'.fresh _) (.cons (.agg (.cons .int (.cons .int .nil))) .nil)))
 ·refine SX.sk ?_
  refine SX.seq (SX.seq ?_)
  refine SX.rr rfl (SX.block (SX.seq (SX.rr rfl ?_)))
  refine SX.condM rfl rfl hm (fun ht hm=>?_) (fun ht hm=>?_)
  ·refine SX.seq (SX.rn 3 rfl ?_)
   obtain ⟨y5,hy5,hm⟩:=bindE hm
   refine SOps.call rfl rfl rfl rfl rfl (c284 F v env n y5 hy5 _) rdNone (SOps.re rfl (SX.rt ?_))
   obtain rfl:=oj hm
   exact RetRQ.mk (vs:=[y5.1.av,y5.2.av]) rfl (.tup (.cons (Set'.fresh _) (.cons (.agg (.cons .int (.cons .int .nil))) .nil)))
  ·refine SX.seq (SX.rr rfl ?_)
   refine SX.condM rfl rfl hm (fun ht hm=>?_) (fun ht hm=>?_)
   ·refine SX.seq (SX.rn 4 rfl ?_)
    obtain ⟨y6,hy6,hm⟩:=bindE hm
    refine SOps.call rfl rfl rfl rfl rfl (hc285_ v env n y6 hy6 _ _ (.cons (.apart (View.apart _)) (.cons (.apart (.vw (ApartL.map fun _ _=>(Var.apart _)))) (.cons (.apart (.agg (Node.cells_apart _))) .nil)))) rdNone (SOps.re rfl (SX.rt ?_))
    obtain rfl:=oj hm
    exact RetRQ.mk (vs:=[((Set'.mk 0 fun _=>false)).av,y6.av]) rfl (.tup (.cons (Set'.fresh _) (.cons (.agg (.cons .int (.cons .int .nil))) .nil)))
   ·refine SX.seq (SX.seq ?_)
    refine SX.rr rfl ?_
    obtain ⟨p7,hj,hm⟩:=bindE hm
    refine SX.join ([(1,AV.vw 66 (env.map Var.av)),(3,AV.ptr 1 0 0 0),(5,AV.ptr 2 0 0 0),(6,AV.ptr 3 0 0 0),(7,AV.ptr 4 0 0 0),(42,AV.int .i64 n.op),(58,AV.bool p7)]) ([oblk 65 0 (([]).map Set'.av),ABlk.row 0 7 [v.av],ABlk.row 0 5 [AV.agg (n.cells)],ABlk.row 0 65 [e0],ABlk.row 0 2 [d0]]) (SX.condM rfl rfl hj (fun ht hj=>?_) (fun ht hj=>?_)) ?_
    ·refine SX.sk ?_
     obtain rfl:=oj hj
     exact ⟨rfl,CutTo.sr rfl⟩
    ·refine SX.seq (SX.rr rfl ?_)
     refine SX.condM rfl rfl hj (fun ht hj=>?_) (fun ht hj=>?_)
     ·refine SX.sk ?_
      obtain rfl:=oj hj
      exact ⟨rfl,CutTo.sr rfl⟩
     ·refine SX.rr rfl ?_
      obtain rfl:=oj hj
      exact ⟨rfl,CutTo.sr rfl⟩
    refine SX.condM rfl rfl hm (fun ht hm=>?_) (fun ht hm=>?_)
    ·refine SX.seq (SX.rn 3 rfl ?_)
     obtain ⟨y9,hy9,hm⟩:=bindE hm
     refine SOps.call rfl rfl rfl rfl rfl (hc286_ v env n y9 hy9 _ _ (.cons (.apart (View.apart _)) (.cons (.apart (.vw (ApartL.map fun _ _=>(Var.apart _)))) (.cons (.apart (.agg (Node.cells_apart _))) .nil)))) rdNone (SOps.re rfl (SX.rt ?_))
     obtain rfl:=oj hm
     exact RetRQ.mk (vs:=[y9.1.av,y9.2.av]) rfl (.tup (.cons (Set'.fresh _) (.cons (.agg (.cons .int (.cons .int .nil))) .nil)))
    ·refine SX.seq (SX.seq ?_)
     refine SX.rr rfl ?_
     obtain ⟨p10,hj,hm⟩:=bindE hm
     refine SX.join ([(1,AV.vw 66 (env.map Var.av)),(3,AV.ptr 1 0 0 0),(5,AV.ptr 2 0 0 0),(6,AV.ptr 3 0 0 0),(7,AV.ptr 4 0 0 0),(68,AV.bool p10)]) ([oblk 65 0 (([]).map Set'.av),ABlk.row 0 7 [v.av],ABlk.row 0 5 [AV.agg (n.cells)],ABlk.row 0 65 [e0],ABlk.row 0 2 [d0]]) (SX.condM rfl rfl hj (fun ht hj=>?_) (fun ht hj=>?_)) ?_
     ·refine SX.sk ?_
      obtain rfl:=oj hj
      exact ⟨rfl,CutTo.sr rfl⟩
     ·refine SX.rr rfl ?_
      obtain rfl:=oj hj
      exact ⟨rfl,CutTo.sr rfl⟩
     refine SX.condM rfl rfl hm (fun ht hm=>?_) (fun ht hm=>?_)
     ·refine SX.rr rfl (SX.seq (SX.rr rfl ?_))
      refine SX.seq (SX.seq ?_)
      refine SX.rr rfl ?_
      obtain ⟨o21,ho21,hm⟩:=bindE hm
      refine SX.forget (al':=[(1,AV.vw 66 (env.map Var.av)),(3,AV.ptr 1 0 0 0),(5,AV.ptr 2 0 0 0),(6,AV.ptr 3 0 0 0),(7,AV.ptr 4 0 0 0),(8,osl 0 0 (([]).map Set'.av)),(9,AV.int .i64 0)]) (leA_of rfl) ?_
      refine SX.iter (fun (s12:Int×List Set') (g13:Nat)=>[(1,AV.vw 66 (env.map Var.av)),(3,AV.ptr 1 0 0 0),(5,AV.ptr 2 0 0 0),(6,AV.ptr 3 0 0 0),(7,AV.ptr 4 0 0 0),(8,osl 0 g13 (s12.2.map Set'.av)),(9,AV.int .i64 s12.1)]) (fun (s12:Int×List Set') (g13:Nat)=>[oblk 65 g13 (s12.2.map Set'.av),ABlk.row 0 7 [vA v true],ABlk.row 0 5 [AV.agg (n.cells)],ABlk.row 0 65 [e0],ABlk.row 0 2 [d0]]) (fun (x19:List Set') (g20:Nat)=>[(3,AV.ptr 1 0 0 0),(5,AV.ptr 2 0 0 0),(6,AV.ptr 3 0 0 0),(7,AV.ptr 4 0 0 0),(8,osl 0 g20 (x19.map Set'.av))]) (fun (x19:List Set') (g20:Nat)=>[oblk 65 g20 (x19.map Set'.av),ABlk.row 0 7 [vA v true],ABlk.row 0 5 [AV.agg (n.cells)],ABlk.row 0 65 [e0],ABlk.row 0 2 [d0]]) (fun r al df h=>RetR Tryz.prog Tryz.f222 (AV.tup [r.1.av,r.2.av]) al df h) (0) ho21 rfl rfl ?_ ?_ ?_
      ·intro s12 g13 out14 hb
       refine SX.seq (SX.seq ?_)
       refine SX.rn 3 rfl (SOps.light rfl rfl (lightV_lenN rfl rfl Tryz.underlying64 rfl) rdNone (SOps.re rfl ?_))
       refine SX.condM rfl rfl hb (fun ht hb=>?_) (fun ht hb=>?_)
       ·refine SX.sk (SX.seq (SX.block (SX.seq ?_)))
        obtain ⟨y15,hy15,hb⟩:=bindE hb
        obtain ⟨y16,hy16,hb⟩:=bindE hb
        refine SX.drawG 30720 2 [(0,[oblk 65 g13 (s12.2.map Set'.av),ABlk.row 0 7 [vA v true],ABlk.row 0 5 [AV.agg (n.cells)],ABlk.row 0 65 [e0],ABlk.row 0 2 [d0],ABlk.resv,ABlk.resv]),(2048,[oblk 65 g13 (s12.2.map Set'.av),ABlk.row 0 7 [vA v true],ABlk.row 0 5 [AV.agg (n.cells)],ABlk.row 0 65 [e0],ABlk.row 0 2 [d0],ABlk.row 0 65 [e0],ABlk.resv]),(4096,[oblk 65 g13 (s12.2.map Set'.av),ABlk.row 0 7 [vA v true],ABlk.row 0 5 [AV.agg (n.cells)],ABlk.row 0 65 [e0],ABlk.row 0 2 [d0],ABlk.resv,ABlk.row 0 2 [d0]]),(6144,[oblk 65 g13 (s12.2.map Set'.av),ABlk.row 0 7 [vA v true],ABlk.row 0 5 [AV.agg (n.cells)],ABlk.row 0 65 [e0],ABlk.row 0 2 [d0],ABlk.row 0 65 [e0],ABlk.row 0 2 [d0]]),(14336,[oblk 65 g13 (s12.2.map Set'.av),ABlk.row 0 7 [vA v true],ABlk.row 0 5 [AV.agg (n.cells)],ABlk.row 0 65 [e0],ABlk.row 0 2 [d0],ABlk.row 0 65 [y16.1.av],ABlk.row 0 2 [d0]]),(30720,[oblk 65 g13 (s12.2.map Set'.av),ABlk.row 0 7 [vA v true],ABlk.row 0 5 [AV.agg (n.cells)],ABlk.row 0 65 [e0],ABlk.row 0 2 [d0],ABlk.row 0 65 [y16.1.av],ABlk.row 0 2 [y16.2.av]])] ([oblk 65 g13 (s12.2.map Set'.av),ABlk.row 0 7 [vA v true],ABlk.row 0 5 [AV.agg (n.cells)],ABlk.row 0 65 [e0],ABlk.row 0 2 [d0],ABlk.row 0 65 [y16.1.av],ABlk.row 0 2 [y16.2.av]]) follows_mixed rfl rfl (.head _) (aI trivial (aI trivial (aI trivial (aI trivial (aI trivial (aI rfl trivial)))))) ?_
        iterate 5 refine GO.light (v:=_) rfl rfl rfl (aI rfl (aI rfl (aI rfl (aI rfl (aI trivial (aI trivial trivial)))))) ?_
        refine GO.light rfl rfl rfl (aI (lightV_idxN rfl rfl Tryz.underlying64 rfl hy15) (aI (lightV_idxN rfl rfl Tryz.underlying64 rfl hy15) (aI (lightV_idxN rfl rfl Tryz.underlying64 rfl hy15) (aI (lightV_idxN rfl rfl Tryz.underlying64 rfl hy15) (aI trivial (aI trivial trivial)))))) (GO.light (v:=_) rfl rfl rfl (aI rfl (aI rfl (aI rfl (aI rfl (aI trivial (aI trivial trivial)))))) (GO.call rfl rfl rfl rfl rfl rfl (aI (hc222_ ((View.mk v.sp v.temp v.calls true)) env y15 y16 hy16 _ _ (.cons vRd (.cons (.apart (.vw (ApartL.map fun _ _=>(Var.apart _)))) (.cons (.apart (.agg (Node.cells_apart _))) .nil)))) (aI (hc222_ ((View.mk v.sp v.temp v.calls true)) env y15 y16 hy16 _ _ (.cons vRd (.cons (.apart (.vw (ApartL.map fun _ _=>(Var.apart _)))) (.cons (.apart (.agg (Node.cells_apart _))) .nil)))) (aI (hc222_ ((View.mk v.sp v.temp v.calls true)) env y15 y16 hy16 _ _ (.cons vRd (.cons (.apart (.vw (ApartL.map fun _ _=>(Var.apart _)))) (.cons (.apart (.agg (Node.cells_apart _))) .nil)))) (aI (hc222_ ((View.mk v.sp v.temp v.calls true)) env y15 y16 hy16 _ _ (.cons vRd (.cons (.apart (.vw (ApartL.map fun _ _=>(Var.apart _)))) (.cons (.apart (.agg (Node.cells_apart _))) .nil)))) (aI trivial (aI trivial trivial)))))) ?_))
        iterate 2 refine GO.light (v:=_) rfl rfl rfl (aI rfl (aI rfl (aI rfl (aI rfl (aI trivial (aI trivial trivial)))))) ?_
        refine GO.light (v:=_) rfl rfl rfl (aI rfl (aI rfl (aI rfl (aI rfl (aI rfl (aI trivial trivial)))))) (GO.fill (b:=5) (v:=_) rfl rfl rfl (aI (eI _ (aI rfl (.tail _ (.head _)))) (aI trivial (aI (eI _ (aI rfl (.tail _ (.tail _ (.tail _ (.head _)))))) (aI trivial (aI trivial (aI trivial trivial)))))) (GO.fill (b:=6) (v:=_) rfl rfl rfl (aI (eI _ (aI rfl (.tail _ (.tail _ (.head _))))) (aI (eI _ (aI rfl (.tail _ (.tail _ (.tail _ (.head _)))))) (aI trivial (aI trivial (aI trivial (aI trivial trivial)))))) (GO.heavy (v:=_) rfl rfl rfl (aI trivial (aI trivial (aI trivial (aI (eI _ (aI rfl (.tail _ (.tail _ (.tail _ (.tail _ (.head _))))))) (aI trivial (aI trivial trivial)))))) (GO.heavy (v:=_) rfl rfl rfl (aI trivial (aI trivial (aI trivial (aI trivial (aI (eI _ (aI rfl (.tail _ (.tail _ (.tail _ (.tail _ (.tail _ (.head _)))))))) (aI trivial trivial)))))) (GO.nil ?_)))))
        refine SX.seq (SX.seq ?_)
        refine SX.rr rfl ?_
        refine SX.condM rfl rfl hb (fun ht hb=>?_) (fun ht hb=>?_)
        ·refine SX.seq (SX.drawG 12 0 [(0,[oblk 65 g13 (s12.2.map Set'.av),ABlk.row 0 7 [vA v true],ABlk.row 0 5 [AV.agg (n.cells)],ABlk.row 0 65 [e0],ABlk.row 0 2 [d0],ABlk.row 0 65 [y16.1.av],ABlk.row 0 2 [y16.2.av]]),(4,[oblk 65 g13 (s12.2.map Set'.av),ABlk.row 0 7 [vA v true],ABlk.row 0 5 [AV.agg (n.cells)],ABlk.row 0 65 [e0],ABlk.row 0 2 [d0],ABlk.row 0 65 [y16.1.av],ABlk.row 0 2 [y16.2.av]]),(12,[oblk 65 g13 (s12.2.map Set'.av),ABlk.row 0 7 [vA v true],ABlk.row 0 5 [AV.agg (n.cells)],ABlk.row 0 65 [e0],ABlk.row 0 2 [y16.2.av],ABlk.row 0 65 [y16.1.av],ABlk.row 0 2 [y16.2.av]])] ([oblk 65 g13 (s12.2.map Set'.av),ABlk.row 0 7 [vA v true],ABlk.row 0 5 [AV.agg (n.cells)],ABlk.row 0 65 [e0],ABlk.row 0 2 [y16.2.av],ABlk.row 0 65 [y16.1.av],ABlk.row 0 2 [y16.2.av]]) follows_mixed rfl rfl (.head _) (aI trivial (aI trivial (aI rfl trivial))) (GO.light (v:=_) rfl rfl rfl (aI rfl (aI trivial (aI trivial trivial))) (GO.light (v:=_) rfl rfl rfl (aI rfl (aI rfl (aI trivial trivial))) (GO.heavy (v:=_) rfl rfl rfl (aI (eI _ (aI rfl (.tail _ (.head _)))) (aI trivial (aI trivial trivial))) (GO.heavy (v:=_) rfl rfl rfl (aI trivial (aI (eI _ (aI rfl (.tail _ (.tail _ (.head _))))) (aI trivial trivial))) (GO.nil (SX.rt ?_)))))))
         exact eI _ (aI (ojs hb) (RetR.mk (vs:=[((Set'.mk 0 fun _=>false)).av,y16.2.av]) rfl (.tup (.cons (Set'.fresh _) (.cons (.agg (.cons .int (.cons .int .nil))) .nil)))))
        ·refine SX.sk (SX.rn 3 rfl ?_)
         obtain ⟨y17,hy17,hb⟩:=bindE hb
         refine SOps.growM (f:=Set'.av) (xs:=s12.2) (ys:=[y16.1]) (b:=0) (g:=g13) rfl rfl rfl rfl rfl rfl rfl rfl rfl (fun _=>rfl) rfl hy17 fun g18=>(SOps.re rfl (SX.rr rfl ?_))
         exact eI _ (eI (g18) (aI (ojs hb) (CutTo.drop [_,_] (leA_of rfl) (Nat.le_of_ble_eq_true rfl) (aI (belowL_map fun _=>(Var.belowN _ _)) (aI (Nat.le_of_ble_eq_true rfl) (aI (Nat.le_of_ble_eq_true rfl) (aI (Nat.le_of_ble_eq_true rfl) (aI (Nat.le_of_ble_eq_true rfl) (aI (below_osl (Nat.le_of_ble_eq_true rfl) (belowL_map fun _=>(Set'.belowN _ _))) (aI trivial trivial))))))) (aI (below_oblk (belowL_map fun _=>(Set'.belowN _ _))) (aI (aI (aI (belowL_map fun _=>(Sort'.belowN _ _)) (aI (belowL_map fun _=>(Field.belowN _ _)) (aI (belowL_map fun _=>(Pred.belowN _ _)) (aI (belowL_map fun _=>(Fact.belowN _ _)) (aI (belowL_map fun _=>trivial) (aI trivial (aI trivial trivial))))))) trivial) (aI (aI (Node.cells_below _ _) trivial) (aI (aI (Set'.belowN _ _) trivial) (aI (aI (aI trivial (aI trivial trivial)) trivial) trivial))))))))
       ·refine SX.ex ?_
        exact aI rfl (eI _ (eI (g13) (aI (ojs hb) (CutTo.sr rfl))))
      ·intro x19 g20 he
       subst he
       refine SX.seq (SX.rn 4 rfl ?_)
       obtain ⟨y22,hy22,hm⟩:=bindE hm
       refine SOps.call rfl rfl rfl rfl rfl (c287 F v.sp n x19 y22 hy22 _ _ (.cons (.apart (Spec.apart _)) (.cons (.apart (.agg (Node.cells_apart _))) (.cons (.osl rfl (ApartL.map fun _ _=>(Set'.apart _))) .nil)))) rdNone (SOps.re rfl ?_)
       refine SX.seq (SX.seq ?_)
       refine SX.rr rfl ?_
       refine SX.condM rfl rfl hm (fun ht hm=>?_) (fun ht hm=>?_)
       ·refine SX.seq (SX.drawG 48 0 [(0,[oblk 65 g20 (x19.map Set'.av),ABlk.row 0 7 [vA v true],ABlk.row 0 5 [AV.agg (n.cells)],ABlk.row 0 65 [e0],ABlk.row 0 2 [d0],ABlk.row 0 65 [y22.1.av]]),(16,[oblk 65 g20 (x19.map Set'.av),ABlk.row 0 7 [vA v true],ABlk.row 0 5 [AV.agg (n.cells)],ABlk.row 0 65 [e0],ABlk.row 0 2 [d0],ABlk.row 0 65 [y22.1.av]]),(48,[oblk 65 g20 (x19.map Set'.av),ABlk.row 0 7 [vA v true],ABlk.row 0 5 [AV.agg (n.cells)],ABlk.row 0 65 [e0],ABlk.row 0 2 [((Diag.mk 42 n.pos)).av],ABlk.row 0 65 [y22.1.av]])] ([oblk 65 g20 (x19.map Set'.av),ABlk.row 0 7 [vA v true],ABlk.row 0 5 [AV.agg (n.cells)],ABlk.row 0 65 [e0],ABlk.row 0 2 [((Diag.mk 42 n.pos)).av],ABlk.row 0 65 [y22.1.av]]) follows_mixed rfl rfl (.head _) (aI trivial (aI trivial (aI rfl trivial))) (GO.light (v:=_) rfl rfl rfl (aI rfl (aI trivial (aI trivial trivial))) ?_))
        iterate 3 refine GO.light (v:=_) rfl rfl rfl (aI rfl (aI rfl (aI trivial trivial))) ?_
        refine GO.heavy (v:=_) rfl rfl rfl (aI (eI _ (aI rfl (.tail _ (.head _)))) (aI trivial (aI trivial trivial))) (GO.heavy (v:=_) rfl rfl rfl (aI trivial (aI (eI _ (aI rfl (.tail _ (.tail _ (.head _))))) (aI trivial trivial))) (GO.nil (SX.rt ?_)))
        obtain rfl:=oj hm
        exact RetRQ.mk (vs:=[((Set'.mk 0 fun _=>false)).av,((Diag.mk 42 n.pos)).av]) rfl (.tup (.cons (Set'.fresh _) (.cons (.agg (.cons .int (.cons .int .nil))) .nil)))
       ·refine SX.sk (SX.seq (SX.rr rfl (SX.rt ?_)))
        obtain rfl:=oj hm
        exact RetRQ.mk (vs:=[y22.1.av,((Diag.mk 0 0)).av]) rfl (.tup (.cons (Set'.fresh _) (.cons (.agg (.cons .int (.cons .int .nil))) .nil)))
      ·intro r al' df' h' hr hq
       subst hr
       obtain rfl:=oj hm
       exact hq
     ·refine SX.sk (SX.seq (SX.rr rfl ?_))
      refine SX.seq (SX.seq ?_)
      refine SX.rr rfl ?_
      obtain ⟨o33,ho33,hm⟩:=bindE hm
      refine SX.forget (al':=[(1,AV.vw 66 (env.map Var.av)),(3,AV.ptr 1 0 0 0),(5,AV.ptr 2 0 0 0),(6,AV.ptr 3 0 0 0),(7,AV.ptr 4 0 0 0),(8,osl 0 0 (([]).map Set'.av)),(9,AV.int .i64 0)]) (leA_of rfl) ?_
      refine SX.iter (fun (s24:Int×List Set') (g25:Nat)=>[(1,AV.vw 66 (env.map Var.av)),(3,AV.ptr 1 0 0 0),(5,AV.ptr 2 0 0 0),(6,AV.ptr 3 0 0 0),(7,AV.ptr 4 0 0 0),(8,osl 0 g25 (s24.2.map Set'.av)),(9,AV.int .i64 s24.1)]) (fun (s24:Int×List Set') (g25:Nat)=>[oblk 65 g25 (s24.2.map Set'.av),ABlk.row 0 7 [v.av],ABlk.row 0 5 [AV.agg (n.cells)],ABlk.row 0 65 [e0],ABlk.row 0 2 [d0]]) (fun (x31:List Set') (g32:Nat)=>[(3,AV.ptr 1 0 0 0),(5,AV.ptr 2 0 0 0),(6,AV.ptr 3 0 0 0),(7,AV.ptr 4 0 0 0),(8,osl 0 g32 (x31.map Set'.av))]) (fun (x31:List Set') (g32:Nat)=>[oblk 65 g32 (x31.map Set'.av),ABlk.row 0 7 [v.av],ABlk.row 0 5 [AV.agg (n.cells)],ABlk.row 0 65 [e0],ABlk.row 0 2 [d0]]) (fun r al df h=>RetR Tryz.prog Tryz.f222 (AV.tup [r.1.av,r.2.av]) al df h) (0) ho33 rfl rfl ?_ ?_ ?_
      ·intro s24 g25 out26 hb
       refine SX.seq (SX.seq ?_)
       refine SX.rn 3 rfl (SOps.light rfl rfl (lightV_lenN rfl rfl Tryz.underlying64 rfl) rdNone (SOps.re rfl ?_))
       refine SX.condM rfl rfl hb (fun ht hb=>?_) (fun ht hb=>?_)
       ·refine SX.sk (SX.seq (SX.block (SX.seq ?_)))
        obtain ⟨y27,hy27,hb⟩:=bindE hb
        obtain ⟨y28,hy28,hb⟩:=bindE hb
        refine SX.drawG 30720 2 [(0,[oblk 65 g25 (s24.2.map Set'.av),ABlk.row 0 7 [v.av],ABlk.row 0 5 [AV.agg (n.cells)],ABlk.row 0 65 [e0],ABlk.row 0 2 [d0],ABlk.resv,ABlk.resv]),(2048,[oblk 65 g25 (s24.2.map Set'.av),ABlk.row 0 7 [v.av],ABlk.row 0 5 [AV.agg (n.cells)],ABlk.row 0 65 [e0],ABlk.row 0 2 [d0],ABlk.row 0 65 [e0],ABlk.resv]),(4096,[oblk 65 g25 (s24.2.map Set'.av),ABlk.row 0 7 [v.av],ABlk.row 0 5 [AV.agg (n.cells)],ABlk.row 0 65 [e0],ABlk.row 0 2 [d0],ABlk.resv,ABlk.row 0 2 [d0]]),(6144,[oblk 65 g25 (s24.2.map Set'.av),ABlk.row 0 7 [v.av],ABlk.row 0 5 [AV.agg (n.cells)],ABlk.row 0 65 [e0],ABlk.row 0 2 [d0],ABlk.row 0 65 [e0],ABlk.row 0 2 [d0]]),(14336,[oblk 65 g25 (s24.2.map Set'.av),ABlk.row 0 7 [v.av],ABlk.row 0 5 [AV.agg (n.cells)],ABlk.row 0 65 [e0],ABlk.row 0 2 [d0],ABlk.row 0 65 [y28.1.av],ABlk.row 0 2 [d0]]),(30720,[oblk 65 g25 (s24.2.map Set'.av),ABlk.row 0 7 [v.av],ABlk.row 0 5 [AV.agg (n.cells)],ABlk.row 0 65 [e0],ABlk.row 0 2 [d0],ABlk.row 0 65 [y28.1.av],ABlk.row 0 2 [y28.2.av]])] ([oblk 65 g25 (s24.2.map Set'.av),ABlk.row 0 7 [v.av],ABlk.row 0 5 [AV.agg (n.cells)],ABlk.row 0 65 [e0],ABlk.row 0 2 [d0],ABlk.row 0 65 [y28.1.av],ABlk.row 0 2 [y28.2.av]]) follows_mixed rfl rfl (.head _) (aI trivial (aI trivial (aI trivial (aI trivial (aI trivial (aI rfl trivial)))))) ?_
        iterate 5 refine GO.light (v:=_) rfl rfl rfl (aI rfl (aI rfl (aI rfl (aI rfl (aI trivial (aI trivial trivial)))))) ?_
        refine GO.light rfl rfl rfl (aI (lightV_idxN rfl rfl Tryz.underlying64 rfl hy27) (aI (lightV_idxN rfl rfl Tryz.underlying64 rfl hy27) (aI (lightV_idxN rfl rfl Tryz.underlying64 rfl hy27) (aI (lightV_idxN rfl rfl Tryz.underlying64 rfl hy27) (aI trivial (aI trivial trivial)))))) (GO.light (v:=_) rfl rfl rfl (aI rfl (aI rfl (aI rfl (aI rfl (aI trivial (aI trivial trivial)))))) (GO.call rfl rfl rfl rfl rfl rfl (aI (hc222_ v env y27 y28 hy28 _ _ (.cons (.apart (View.apart _)) (.cons (.apart (.vw (ApartL.map fun _ _=>(Var.apart _)))) (.cons (.apart (.agg (Node.cells_apart _))) .nil)))) (aI (hc222_ v env y27 y28 hy28 _ _ (.cons (.apart (View.apart _)) (.cons (.apart (.vw (ApartL.map fun _ _=>(Var.apart _)))) (.cons (.apart (.agg (Node.cells_apart _))) .nil)))) (aI (hc222_ v env y27 y28 hy28 _ _ (.cons (.apart (View.apart _)) (.cons (.apart (.vw (ApartL.map fun _ _=>(Var.apart _)))) (.cons (.apart (.agg (Node.cells_apart _))) .nil)))) (aI (hc222_ v env y27 y28 hy28 _ _ (.cons (.apart (View.apart _)) (.cons (.apart (.vw (ApartL.map fun _ _=>(Var.apart _)))) (.cons (.apart (.agg (Node.cells_apart _))) .nil)))) (aI trivial (aI trivial trivial)))))) ?_))
        iterate 2 refine GO.light (v:=_) rfl rfl rfl (aI rfl (aI rfl (aI rfl (aI rfl (aI trivial (aI trivial trivial)))))) ?_
        refine GO.light (v:=_) rfl rfl rfl (aI rfl (aI rfl (aI rfl (aI rfl (aI rfl (aI trivial trivial)))))) (GO.fill (b:=5) (v:=_) rfl rfl rfl (aI (eI _ (aI rfl (.tail _ (.head _)))) (aI trivial (aI (eI _ (aI rfl (.tail _ (.tail _ (.tail _ (.head _)))))) (aI trivial (aI trivial (aI trivial trivial)))))) (GO.fill (b:=6) (v:=_) rfl rfl rfl (aI (eI _ (aI rfl (.tail _ (.tail _ (.head _))))) (aI (eI _ (aI rfl (.tail _ (.tail _ (.tail _ (.head _)))))) (aI trivial (aI trivial (aI trivial (aI trivial trivial)))))) (GO.heavy (v:=_) rfl rfl rfl (aI trivial (aI trivial (aI trivial (aI (eI _ (aI rfl (.tail _ (.tail _ (.tail _ (.tail _ (.head _))))))) (aI trivial (aI trivial trivial)))))) (GO.heavy (v:=_) rfl rfl rfl (aI trivial (aI trivial (aI trivial (aI trivial (aI (eI _ (aI rfl (.tail _ (.tail _ (.tail _ (.tail _ (.tail _ (.head _)))))))) (aI trivial trivial)))))) (GO.nil ?_)))))
        refine SX.seq (SX.seq ?_)
        refine SX.rr rfl ?_
        refine SX.condM rfl rfl hb (fun ht hb=>?_) (fun ht hb=>?_)
        ·refine SX.seq (SX.drawG 12 0 [(0,[oblk 65 g25 (s24.2.map Set'.av),ABlk.row 0 7 [v.av],ABlk.row 0 5 [AV.agg (n.cells)],ABlk.row 0 65 [e0],ABlk.row 0 2 [d0],ABlk.row 0 65 [y28.1.av],ABlk.row 0 2 [y28.2.av]]),(4,[oblk 65 g25 (s24.2.map Set'.av),ABlk.row 0 7 [v.av],ABlk.row 0 5 [AV.agg (n.cells)],ABlk.row 0 65 [e0],ABlk.row 0 2 [d0],ABlk.row 0 65 [y28.1.av],ABlk.row 0 2 [y28.2.av]]),(12,[oblk 65 g25 (s24.2.map Set'.av),ABlk.row 0 7 [v.av],ABlk.row 0 5 [AV.agg (n.cells)],ABlk.row 0 65 [e0],ABlk.row 0 2 [y28.2.av],ABlk.row 0 65 [y28.1.av],ABlk.row 0 2 [y28.2.av]])] ([oblk 65 g25 (s24.2.map Set'.av),ABlk.row 0 7 [v.av],ABlk.row 0 5 [AV.agg (n.cells)],ABlk.row 0 65 [e0],ABlk.row 0 2 [y28.2.av],ABlk.row 0 65 [y28.1.av],ABlk.row 0 2 [y28.2.av]]) follows_mixed rfl rfl (.head _) (aI trivial (aI trivial (aI rfl trivial))) (GO.light (v:=_) rfl rfl rfl (aI rfl (aI trivial (aI trivial trivial))) (GO.light (v:=_) rfl rfl rfl (aI rfl (aI rfl (aI trivial trivial))) (GO.heavy (v:=_) rfl rfl rfl (aI (eI _ (aI rfl (.tail _ (.head _)))) (aI trivial (aI trivial trivial))) (GO.heavy (v:=_) rfl rfl rfl (aI trivial (aI (eI _ (aI rfl (.tail _ (.tail _ (.head _))))) (aI trivial trivial))) (GO.nil (SX.rt ?_)))))))
         exact eI _ (aI (ojs hb) (RetR.mk (vs:=[((Set'.mk 0 fun _=>false)).av,y28.2.av]) rfl (.tup (.cons (Set'.fresh _) (.cons (.agg (.cons .int (.cons .int .nil))) .nil)))))
        ·refine SX.sk (SX.rn 3 rfl ?_)
         obtain ⟨y29,hy29,hb⟩:=bindE hb
         refine SOps.growM (f:=Set'.av) (xs:=s24.2) (ys:=[y28.1]) (b:=0) (g:=g25) rfl rfl rfl rfl rfl rfl rfl rfl rfl (fun _=>rfl) rfl hy29 fun g30=>(SOps.re rfl (SX.rr rfl ?_))
         exact eI _ (eI (g30) (aI (ojs hb) (CutTo.drop [_,_] (leA_of rfl) (Nat.le_of_ble_eq_true rfl) (aI (belowL_map fun _=>(Var.belowN _ _)) (aI (Nat.le_of_ble_eq_true rfl) (aI (Nat.le_of_ble_eq_true rfl) (aI (Nat.le_of_ble_eq_true rfl) (aI (Nat.le_of_ble_eq_true rfl) (aI (below_osl (Nat.le_of_ble_eq_true rfl) (belowL_map fun _=>(Set'.belowN _ _))) (aI trivial trivial))))))) (aI (below_oblk (belowL_map fun _=>(Set'.belowN _ _))) (aI (aI (View.belowN _ _) trivial) (aI (aI (Node.cells_below _ _) trivial) (aI (aI (Set'.belowN _ _) trivial) (aI (aI (aI trivial (aI trivial trivial)) trivial) trivial))))))))
       ·refine SX.ex ?_
        exact aI rfl (eI _ (eI (g25) (aI (ojs hb) (CutTo.sr rfl))))
      ·intro x31 g32 he
       subst he
       refine SX.seq (SX.rn 4 rfl ?_)
       obtain ⟨y34,hy34,hm⟩:=bindE hm
       refine SOps.call rfl rfl rfl rfl rfl (c287 F v.sp n x31 y34 hy34 _ _ (.cons (.apart (Spec.apart _)) (.cons (.apart (.agg (Node.cells_apart _))) (.cons (.osl rfl (ApartL.map fun _ _=>(Set'.apart _))) .nil)))) rdNone (SOps.re rfl ?_)
       refine SX.seq (SX.seq ?_)
       refine SX.rr rfl ?_
       refine SX.condM rfl rfl hm (fun ht hm=>?_) (fun ht hm=>?_)
       ·refine SX.seq (SX.drawG 48 0 [(0,[oblk 65 g32 (x31.map Set'.av),ABlk.row 0 7 [v.av],ABlk.row 0 5 [AV.agg (n.cells)],ABlk.row 0 65 [e0],ABlk.row 0 2 [d0],ABlk.row 0 65 [y34.1.av]]),(16,[oblk 65 g32 (x31.map Set'.av),ABlk.row 0 7 [v.av],ABlk.row 0 5 [AV.agg (n.cells)],ABlk.row 0 65 [e0],ABlk.row 0 2 [d0],ABlk.row 0 65 [y34.1.av]]),(48,[oblk 65 g32 (x31.map Set'.av),ABlk.row 0 7 [v.av],ABlk.row 0 5 [AV.agg (n.cells)],ABlk.row 0 65 [e0],ABlk.row 0 2 [((Diag.mk 42 n.pos)).av],ABlk.row 0 65 [y34.1.av]])] ([oblk 65 g32 (x31.map Set'.av),ABlk.row 0 7 [v.av],ABlk.row 0 5 [AV.agg (n.cells)],ABlk.row 0 65 [e0],ABlk.row 0 2 [((Diag.mk 42 n.pos)).av],ABlk.row 0 65 [y34.1.av]]) follows_mixed rfl rfl (.head _) (aI trivial (aI trivial (aI rfl trivial))) (GO.light (v:=_) rfl rfl rfl (aI rfl (aI trivial (aI trivial trivial))) ?_))
        iterate 3 refine GO.light (v:=_) rfl rfl rfl (aI rfl (aI rfl (aI trivial trivial))) ?_
        refine GO.heavy (v:=_) rfl rfl rfl (aI (eI _ (aI rfl (.tail _ (.head _)))) (aI trivial (aI trivial trivial))) (GO.heavy (v:=_) rfl rfl rfl (aI trivial (aI (eI _ (aI rfl (.tail _ (.tail _ (.head _))))) (aI trivial trivial))) (GO.nil (SX.rt ?_)))
        obtain rfl:=oj hm
        exact RetRQ.mk (vs:=[((Set'.mk 0 fun _=>false)).av,((Diag.mk 42 n.pos)).av]) rfl (.tup (.cons (Set'.fresh _) (.cons (.agg (.cons .int (.cons .int .nil))) .nil)))
       ·refine SX.sk (SX.seq (SX.rr rfl (SX.rt ?_)))
        obtain rfl:=oj hm
        exact RetRQ.mk (vs:=[y34.1.av,((Diag.mk 0 0)).av]) rfl (.tup (.cons (Set'.fresh _) (.cons (.agg (.cons .int (.cons .int .nil))) .nil)))
      ·intro r al' df' h' hr hq
       subst hr
       obtain rfl:=oj hm
       exact hq
end Go.AL
namespace Go.AL
open Go Go.Proofs
set_option maxRecDepth 10000
def m222n (F:Nat):Nat→View→List Var→Node→Option (Set'×Diag)
 | 0,_,_,_=>none
 | fu + 1,v,env,n=>m222p F (m222n F fu) (m285p F (m222n F fu)) (m286p F (m222n F fu)) v env n
theorem c222n (F:Nat):∀ (fu:Nat) (v:View) (env:List Var) (n:Node) (res:Set'×Diag),m222n F fu v env n = some res→∀ h args0,ReadL h args0 [v.av,AV.vw 66 (env.map Var.av),AV.agg n.cells]→ACall Tryz.prog 222 args0 h (.ret (AV.tup [res.1.av,res.2.av])) h
 | 0,_,_,_,_,hm=>by cases hm
 | fu + 1,v,env,n,res,hm=>fun h args0 hargs=>c222p F (m222n F fu) (m285p F (m222n F fu)) (m286p F (m222n F fu)) (fun a b c r hr h args0 ha=>c222n F fu a b c r hr h args0 ha)
   (fun a b c r hr h args0 ha=>c285p F (m222n F fu) (fun a b c r hr h args0 ha=>c222n F fu a b c r hr h args0 ha) a b c r hr h args0 ha)
   (fun a b c r hr h args0 ha=>c286p F (m222n F fu) (fun a b c r hr h args0 ha=>c222n F fu a b c r hr h args0 ha) a b c r hr h args0 ha) v env n res hm h args0 hargs
def m222 (F:Nat) (v:View) (env:List Var) (n:Node):Option (Set'×Diag):=m222n F F v env n
theorem c222 (F:Nat) (v:View) (env:List Var) (n:Node) (res:Set'×Diag) (hm:m222 F v env n = some res) (h:List ABlk) (args0:List AV) (hargs:ReadL h args0 [v.av,AV.vw 66 (env.map Var.av),AV.agg n.cells]) :
  ACall Tryz.prog 222 args0 h (.ret (AV.tup [res.1.av,res.2.av])) h:=c222n F F v env n res hm h args0 hargs
def m153 (F:Nat) (sp:Spec) (calls:Int) (env:List Param) (n:Node):Option Diag:=
 (m221 F n).bind fun y1=>
 bif (!y1) then
 some ((Diag.mk 43 n.pos))
 else
 (m223 F sp).bind fun y2=>
 (m224 F env).bind fun y3=>
 (m222 F ((View.mk sp y2 calls false)) y3 n).bind fun y4=>
 some y4.2
theorem c153 (F:Nat) (sp:Spec) (calls:Int) (env:List Param) (n:Node) (res:Diag) (hm:m153 F sp calls env n = some res) (h:List ABlk):ACall Tryz.prog 153 [sp.av,AV.int .i64 calls,AV.vw 2 (env.map Param.av),AV.agg (n.cells)] h (.ret (res.av)) h:=by
 unfold m153 at hm
 refine ACall.mir 0 Tryz.func153 rfl (.cons (Spec.apart _) (.cons .int (.cons (.vw (ApartL.map fun _ _=>(Param.apart _))) (.cons (.agg (Node.cells_apart _)) .nil)))) (nlst rfl) ?_ h
 show SX _ _ _ 30 _ _ _ _
 refine SX.seq (SX.rr rfl ?_)
 refine SX.seq (SX.seq ?_)
 refine SX.rn 1 rfl ?_
 obtain ⟨y1,hy1,hm⟩:=bindE hm
 refine SOps.call rfl rfl rfl rfl rfl (c221 F n y1 hy1 _) rdNone (SOps.re rfl ?_)
 refine SX.condM rfl rfl hm (fun ht hm=>?_) (fun ht hm=>?_)
 ·refine SX.seq (SX.rr rfl (SX.rt ?_))
  obtain rfl:=oj hm
  exact RetQ.mk (vs:=[((Diag.mk 43 n.pos)).av]) rfl (.apart (Diag.apart ((Diag.mk 43 n.pos))))
 ·refine SX.sk (SX.seq ?_)
  obtain ⟨y2,hy2,hm⟩:=bindE hm
  obtain ⟨y3,hy3,hm⟩:=bindE hm
  obtain ⟨y4,hy4,hm⟩:=bindE hm
  refine SX.drawG 61440 2 [(0,[ABlk.row 0 4 [sp.av],ABlk.row 0 5 [AV.agg (n.cells)],ABlk.row 0 2 [d0],ABlk.resv,ABlk.resv]),(4096,[ABlk.row 0 4 [sp.av],ABlk.row 0 5 [AV.agg (n.cells)],ABlk.row 0 2 [d0],ABlk.row 0 65 [e0],ABlk.resv]),(8192,[ABlk.row 0 4 [sp.av],ABlk.row 0 5 [AV.agg (n.cells)],ABlk.row 0 2 [d0],ABlk.resv,ABlk.row 0 2 [d0]]),(12288,[ABlk.row 0 4 [sp.av],ABlk.row 0 5 [AV.agg (n.cells)],ABlk.row 0 2 [d0],ABlk.row 0 65 [e0],ABlk.row 0 2 [d0]]),(28672,[ABlk.row 0 4 [sp.av],ABlk.row 0 5 [AV.agg (n.cells)],ABlk.row 0 2 [d0],ABlk.row 0 65 [y4.1.av],ABlk.row 0 2 [d0]]),(61440,[ABlk.row 0 4 [sp.av],ABlk.row 0 5 [AV.agg (n.cells)],ABlk.row 0 2 [d0],ABlk.row 0 65 [y4.1.av],ABlk.row 0 2 [y4.2.av]])] ([ABlk.row 0 4 [sp.av],ABlk.row 0 5 [AV.agg (n.cells)],ABlk.row 0 2 [d0],ABlk.row 0 65 [y4.1.av],ABlk.row 0 2 [y4.2.av]]) follows_mixed rfl rfl (.head _) (aI trivial (aI trivial (aI trivial (aI trivial (aI trivial (aI rfl trivial)))))) ?_
  iterate 2 refine GO.light (v:=_) rfl rfl rfl (aI rfl (aI rfl (aI rfl (aI rfl (aI trivial (aI trivial trivial)))))) ?_
  refine GO.call rfl rfl rfl rfl rfl rfl (aI (c223 F sp y2 hy2 _) (aI (c223 F sp y2 hy2 _) (aI (c223 F sp y2 hy2 _) (aI (c223 F sp y2 hy2 _) (aI trivial (aI trivial trivial)))))) ?_
  iterate 3 refine GO.light (v:=_) rfl rfl rfl (aI rfl (aI rfl (aI rfl (aI rfl (aI trivial (aI trivial trivial)))))) ?_
  refine GO.call rfl rfl rfl rfl rfl rfl (aI (c224 F env y3 hy3 _) (aI (c224 F env y3 hy3 _) (aI (c224 F env y3 hy3 _) (aI (c224 F env y3 hy3 _) (aI trivial (aI trivial trivial)))))) (GO.light (v:=_) rfl rfl rfl (aI rfl (aI rfl (aI rfl (aI rfl (aI trivial (aI trivial trivial)))))) (GO.call rfl rfl rfl rfl rfl rfl (aI (c222 F ((View.mk sp y2 calls false)) y3 n y4 hy4 _ _ (.cons (.apart (View.apart ((View.mk sp y2 calls false)))) (.cons (.apart (.vw (ApartL.map fun _ _=>(Var.apart _)))) (.cons (.apart (.agg (Node.cells_apart n))) .nil)))) (aI (c222 F ((View.mk sp y2 calls false)) y3 n y4 hy4 _ _ (.cons (.apart (View.apart ((View.mk sp y2 calls false)))) (.cons (.apart (.vw (ApartL.map fun _ _=>(Var.apart _)))) (.cons (.apart (.agg (Node.cells_apart n))) .nil)))) (aI (c222 F ((View.mk sp y2 calls false)) y3 n y4 hy4 _ _ (.cons (.apart (View.apart ((View.mk sp y2 calls false)))) (.cons (.apart (.vw (ApartL.map fun _ _=>(Var.apart _)))) (.cons (.apart (.agg (Node.cells_apart n))) .nil)))) (aI (c222 F ((View.mk sp y2 calls false)) y3 n y4 hy4 _ _ (.cons (.apart (View.apart ((View.mk sp y2 calls false)))) (.cons (.apart (.vw (ApartL.map fun _ _=>(Var.apart _)))) (.cons (.apart (.agg (Node.cells_apart n))) .nil)))) (aI trivial (aI trivial trivial)))))) ?_))
  iterate 2 refine GO.light (v:=_) rfl rfl rfl (aI rfl (aI rfl (aI rfl (aI rfl (aI trivial (aI trivial trivial)))))) ?_
  refine GO.light (v:=_) rfl rfl rfl (aI rfl (aI rfl (aI rfl (aI rfl (aI rfl (aI trivial trivial)))))) (GO.fill (b:=3) (v:=_) rfl rfl rfl (aI (eI _ (aI rfl (.tail _ (.head _)))) (aI trivial (aI (eI _ (aI rfl (.tail _ (.tail _ (.tail _ (.head _)))))) (aI trivial (aI trivial (aI trivial trivial)))))) (GO.fill (b:=4) (v:=_) rfl rfl rfl (aI (eI _ (aI rfl (.tail _ (.tail _ (.head _))))) (aI (eI _ (aI rfl (.tail _ (.tail _ (.tail _ (.head _)))))) (aI trivial (aI trivial (aI trivial (aI trivial trivial)))))) (GO.heavy (v:=_) rfl rfl rfl (aI trivial (aI trivial (aI trivial (aI (eI _ (aI rfl (.tail _ (.tail _ (.tail _ (.tail _ (.head _))))))) (aI trivial (aI trivial trivial)))))) (GO.heavy (v:=_) rfl rfl rfl (aI trivial (aI trivial (aI trivial (aI trivial (aI (eI _ (aI rfl (.tail _ (.tail _ (.tail _ (.tail _ (.tail _ (.head _)))))))) (aI trivial trivial)))))) (GO.nil (SX.seq (SX.rr rfl (SX.rt ?_))))))))
  obtain rfl:=oj hm
  exact RetQ.mk (vs:=[y4.2.av]) rfl (.apart (Diag.apart y4.2))
def m99 (F:Nat) (sp:Spec) (env:List Param) (n:Node):Option Diag:=
 (m153 F sp ((sp.preds.length:Int)) env n).bind fun y1=>
 some y1
theorem c99 (F:Nat) (sp:Spec) (env:List Param) (n:Node) (res:Diag) (hm:m99 F sp env n = some res) (h:List ABlk):ACall Tryz.prog 99 [sp.av,AV.vw 2 (env.map Param.av),AV.agg (n.cells)] h (.ret (res.av)) h:=by
 unfold m99 at hm
 refine ACall.mir 0 Tryz.func99 rfl (.cons (Spec.apart _) (.cons (.vw (ApartL.map fun _ _=>(Param.apart _))) (.cons (.agg (Node.cells_apart _)) .nil))) (nlst rfl) ?_ h
 show SX _ _ _ 14 _ _ _ _
 refine SX.seq (SX.rr rfl (SX.seq (SX.rn 3 rfl (SOps.light rfl rfl (lightV_len (f:=Pred.av) (xs:=sp.preds) rfl rfl Tryz.underlying24 rfl) rdNone (SOps.rn 2 rfl ?_)))))
 obtain ⟨y1,hy1,hm⟩:=bindE hm
 refine SOps.call rfl rfl rfl rfl rfl (c153 F sp ((sp.preds.length:Int)) env n y1 hy1 _) rdNone (SOps.re rfl (SX.rt ?_))
 obtain rfl:=oj hm
 exact RetQ.mk (vs:=[y1.av]) rfl (.apart (Diag.apart y1))
def m98 (F:Nat) (sp:Spec) (i:Int):Option (List Diag):=
 (idx sp.preds i).bind fun y1=>
 (m152 F sp i y1.name).bind fun y2=>
 (bif decide (0≤y2) then
 (app ([]) ([(Diag.mk 41 0)])).bind fun y3=>
 some (y3)
 else
 some ([])).bind fun p5=>
 (idx sp.preds i).bind fun y7=>
 (runs (fun (s8:Int×List Diag)=>
 (bif decide (s8.1 < (y7.params.length:Int)) then
 (runs (fun (s11:Bool×Int)=>
 (bif decide (s11.2 < s8.1) then
 (bif s11.1 then
 some (true)
 else
 (idx y7.params s11.2).bind fun y14=>
 (idx y7.params s8.1).bind fun y15=>
 some ((y14.name.toList == y15.name.toList))).bind fun p16=>
 some (Out.next (p16,w64 (s11.2 + 1)))
 else
 some (Out.exit (s11.1)):Option (Out (Bool×Int) (Bool) (List Diag)))) F (false,0)).bind fun (o20:(Bool) ⊕ (List Diag))=>(match o20 with
 | .inl x18=>
 bif x18 then
 (app s8.2 ([(Diag.mk 41 0)])).bind fun y21=>
 some (Out.next (w64 (s8.1 + 1),y21))
 else
 some (Out.next (w64 (s8.1 + 1),s8.2))
 | .inr r23=>some (Out.ret r23))
 else
 some (Out.exit (s8.2)):Option (Out (Int×List Diag) (List Diag) (List Diag)))) F (0,p5)).bind fun (o26:(List Diag) ⊕ (List Diag))=>(match o26 with
 | .inl x24=>
 (idx sp.preds i).bind fun y27=>
 (m153 F sp i y7.params y27.body).bind fun y28=>
 (bif (y28.err != 0) then
 (app x24 ([y28])).bind fun y29=>
 some (y29)
 else
 some (x24)).bind fun p31=>
 some p31
 | .inr r33=>some r33)
theorem c98 (F:Nat) (sp:Spec) (i:Int) (res:(List Diag)) (hm:m98 F sp i = some res) (h:List ABlk):ACall Tryz.prog 98 [sp.av,AV.int .i64 i] h (.ret (AV.vw 2 (res.map Diag.av))) h:=by
 unfold m98 at hm
 refine ACall.mir 1 Tryz.func98 rfl (.cons (Spec.apart _) (.cons .int .nil)) (nlst rfl) ?_ h
 show SX _ _ _ 79 _ _ _ _
 refine SX.seq (SX.rr rfl (SX.seq (SX.rr rfl ?_)))
 refine SX.seq (SX.seq ?_)
 refine SX.draw follows_mixed rfl rdNone (PO.rn 5 rfl ?_)
 obtain ⟨y1,hy1,hm⟩:=bindE hm
 refine PO.light rfl rfl (lightV_idx (f:=Pred.av) (xs:=sp.preds) rfl rfl Tryz.underlying24 rfl hy1) (PO.rn 2 rfl ?_)
 obtain ⟨y2,hy2,hm⟩:=bindE hm
 refine PO.call rfl rfl rfl rfl rfl (c152 F sp i y1.name y2 hy2 _) (PO.re rfl ?_)
 obtain ⟨p5,hj,hm⟩:=bindE hm
 refine SX.joinG (fun (g6:Nat)=>[(1,AV.int .i64 i),(2,AV.ptr 1 0 0 0),(5,osl 0 g6 (p5.map Diag.av))]) (fun (g6:Nat)=>[oblk 2 g6 (p5.map Diag.av),ABlk.row 0 4 [sp.av]]) (SX.condM rfl rfl hj (fun ht hj=>?_) (fun ht hj=>?_)) (fun g6=>?_)
 ·refine SX.rn 3 rfl ?_
  obtain ⟨y3,hy3,hj⟩:=bindE hj
  refine SOps.growM (f:=Diag.av) (xs:=[]) (ys:=[(Diag.mk 41 0)]) (b:=0) (g:=0) rfl rfl rfl rfl rfl rfl rfl rfl rfl (fun _=>rfl) rfl hy3 fun g4=>(SOps.re rfl ?_)
  obtain rfl:=oj hj
  exact ⟨rfl,(g4),CutTo.sr rfl⟩
 ·refine SX.sk ?_
  obtain rfl:=oj hj
  exact ⟨rfl,(0),CutTo.sr rfl⟩
 refine SX.seq (SX.rn 3 rfl ?_)
 obtain ⟨y7,hy7,hm⟩:=bindE hm
 refine SOps.light rfl rfl (lightV_idx (f:=Pred.av) (xs:=sp.preds) rfl rfl Tryz.underlying24 rfl hy7) rdNone (SOps.re rfl ?_)
 refine SX.seq (SX.seq ?_)
 refine SX.rr rfl ?_
 obtain ⟨o26,ho26,hm⟩:=bindE hm
 refine SX.forget (al':=[(1,AV.int .i64 i),(2,AV.ptr 1 0 0 0),(5,osl 0 g6 (p5.map Diag.av)),(6,AV.vw 2 (y7.params.map Param.av)),(7,AV.int .i64 0)]) (leA_of rfl) ?_
 refine SX.iter (fun (s8:Int×List Diag) (g9:Nat)=>[(1,AV.int .i64 i),(2,AV.ptr 1 0 0 0),(5,osl 0 g9 (s8.2.map Diag.av)),(6,AV.vw 2 (y7.params.map Param.av)),(7,AV.int .i64 s8.1)]) (fun (s8:Int×List Diag) (g9:Nat)=>[oblk 2 g9 (s8.2.map Diag.av),ABlk.row 0 4 [sp.av]]) (fun (x24:List Diag) (g25:Nat)=>[(1,AV.int .i64 i),(2,AV.ptr 1 0 0 0),(5,osl 0 g25 (x24.map Diag.av)),(6,AV.vw 2 (y7.params.map Param.av))]) (fun (x24:List Diag) (g25:Nat)=>[oblk 2 g25 (x24.map Diag.av),ABlk.row 0 4 [sp.av]]) (fun r al df h=>Ret Tryz.prog Tryz.f98 (AV.vw 2 (r.map Diag.av)) al df h) (g6) ho26 rfl rfl ?_ ?_ ?_
 ·intro s8 g9 out10 hb
  refine SX.seq (SX.seq ?_)
  refine SX.rn 2 rfl (SOps.light rfl rfl (lightV_len (f:=Param.av) (xs:=y7.params) rfl rfl Tryz.underlying163 rfl) rdNone (SOps.re rfl ?_))
  refine SX.condM rfl rfl hb (fun ht hb=>?_) (fun ht hb=>?_)
  ·refine SX.sk (SX.seq (SX.block (SX.seq (SX.rr rfl ?_))))
   refine SX.seq (SX.seq ?_)
   refine SX.rr rfl ?_
   obtain ⟨o20,ho20,hb⟩:=bindE hb
   refine SX.forget (al':=[(1,AV.int .i64 i),(2,AV.ptr 1 0 0 0),(5,osl 0 g9 (s8.2.map Diag.av)),(6,AV.vw 2 (y7.params.map Param.av)),(7,AV.int .i64 s8.1),(8,AV.bool false),(9,AV.int .i64 0)]) (leA_of rfl) ?_
   refine SX.iter (fun (s11:Bool×Int) (g12:Unit)=>[(1,AV.int .i64 i),(2,AV.ptr 1 0 0 0),(5,osl 0 g9 (s8.2.map Diag.av)),(6,AV.vw 2 (y7.params.map Param.av)),(7,AV.int .i64 s8.1),(8,AV.bool s11.1),(9,AV.int .i64 s11.2)]) (fun (s11:Bool×Int) (g12:Unit)=>[oblk 2 g9 (s8.2.map Diag.av),ABlk.row 0 4 [sp.av]]) (fun (x18:Bool) (g19:Unit)=>[(1,AV.int .i64 i),(2,AV.ptr 1 0 0 0),(5,osl 0 g9 (s8.2.map Diag.av)),(6,AV.vw 2 (y7.params.map Param.av)),(7,AV.int .i64 s8.1),(8,AV.bool x18)]) (fun (x18:Bool) (g19:Unit)=>[oblk 2 g9 (s8.2.map Diag.av),ABlk.row 0 4 [sp.av]]) (fun r al df h=>Ret Tryz.prog Tryz.f98 (AV.vw 2 (r.map Diag.av)) al df h) () ho20 rfl rfl ?_ ?_ ?_
   ·intro s11 g12 out13 hb
    refine SX.seq (SX.seq ?_)
    refine SX.rr rfl ?_
    refine SX.condM rfl rfl hb (fun ht hb=>?_) (fun ht hb=>?_)
    ·refine SX.sk (SX.seq (SX.block ?_))
     obtain ⟨p16,hj,hb⟩:=bindE hb
     refine SX.join ([(1,AV.int .i64 i),(2,AV.ptr 1 0 0 0),(5,osl 0 g9 (s8.2.map Diag.av)),(6,AV.vw 2 (y7.params.map Param.av)),(7,AV.int .i64 s8.1),(9,AV.int .i64 s11.2),(8,AV.bool p16)]) ([oblk 2 g9 (s8.2.map Diag.av),ABlk.row 0 4 [sp.av]]) (SX.draw follows_mixed rfl rdNone ?_) ?_
     ·refine PO.rn 1 rfl ?_
      refine PO.splitM rfl rfl rfl hj (fun hj=>?_) (fun hj=>?_)
      ·refine PO.re rfl ?_
       obtain rfl:=oj hj
       exact ⟨rfl,CutTo.sr rfl⟩
      ·refine PO.rn 2 rfl ?_
       obtain ⟨y14,hy14,hj⟩:=bindE hj
       refine PO.light rfl rfl (lightV_idx (f:=Param.av) (xs:=y7.params) rfl rfl Tryz.underlying163 rfl hy14) (PO.rn 4 rfl ?_)
       obtain ⟨y15,hy15,hj⟩:=bindE hj
       refine PO.light rfl rfl (lightV_idx (f:=Param.av) (xs:=y7.params) rfl rfl Tryz.underlying163 rfl hy15) (PO.re rfl ?_)
       obtain rfl:=oj hj
       exact ⟨rfl,CutTo.sr rfl⟩
     refine SX.rr rfl ?_
     exact eI _ (eI () (aI (ojs hb) (CutTo.sr rfl)))
    ·refine SX.ex ?_
     exact aI rfl (eI _ (eI () (aI (ojs hb) (CutTo.sr rfl))))
   ·intro x18 g19 he
    subst he
    refine SX.seq (SX.rr rfl ?_)
    refine SX.condM rfl rfl hb (fun ht hb=>?_) (fun ht hb=>?_)
    ·refine SX.rn 3 rfl ?_
     obtain ⟨y21,hy21,hb⟩:=bindE hb
     refine SOps.growM (f:=Diag.av) (xs:=s8.2) (ys:=[(Diag.mk 41 0)]) (b:=0) (g:=g9) rfl rfl rfl rfl rfl rfl rfl rfl rfl (fun _=>rfl) rfl hy21 fun g22=>(SOps.re rfl (SX.rr rfl ?_))
     exact eI _ (eI (g22) (aI (ojs hb) (CutTo.sr rfl)))
    ·refine SX.sk (SX.rr rfl ?_)
     exact eI _ (eI (g9) (aI (ojs hb) (CutTo.sr rfl)))
   ·intro r al' df' h' hr hq
    subst hr
    exact eI _ (aI (ojs hb) hq)
  ·refine SX.ex ?_
   exact aI rfl (eI _ (eI (g9) (aI (ojs hb) (CutTo.sr rfl))))
 ·intro x24 g25 he
  subst he
  refine SX.seq ?_
  obtain ⟨y27,hy27,hm⟩:=bindE hm
  obtain ⟨y28,hy28,hm⟩:=bindE hm
  refine SX.drawG 3072 1 [(0,[oblk 2 g25 (x24.map Diag.av),ABlk.row 0 4 [sp.av],ABlk.resv]),(1024,[oblk 2 g25 (x24.map Diag.av),ABlk.row 0 4 [sp.av],ABlk.row 0 2 [d0]]),(3072,[oblk 2 g25 (x24.map Diag.av),ABlk.row 0 4 [sp.av],ABlk.row 0 2 [y28.av]])] ([oblk 2 g25 (x24.map Diag.av),ABlk.row 0 4 [sp.av],ABlk.row 0 2 [y28.av]]) follows_mixed rfl rfl (.head _) (aI trivial (aI trivial (aI rfl trivial))) ?_
  iterate 6 refine GO.light (v:=_) rfl rfl rfl (aI rfl (aI rfl (aI trivial trivial))) ?_
  refine GO.light rfl rfl rfl (aI (lightV_idx (f:=Pred.av) (xs:=sp.preds) rfl rfl Tryz.underlying24 rfl hy27) (aI (lightV_idx (f:=Pred.av) (xs:=sp.preds) rfl rfl Tryz.underlying24 rfl hy27) (aI trivial trivial))) ?_
  iterate 2 refine GO.light (v:=_) rfl rfl rfl (aI rfl (aI rfl (aI trivial trivial))) ?_
  refine GO.call rfl rfl rfl rfl rfl rfl (aI (c153 F sp i y7.params y27.body y28 hy28 _) (aI (c153 F sp i y7.params y27.body y28 hy28 _) (aI trivial trivial))) (GO.fill (b:=2) (v:=_) rfl rfl rfl (aI (eI _ (aI rfl (.tail _ (.head _)))) (aI trivial (aI trivial trivial))) (GO.heavy (v:=_) rfl rfl rfl (aI trivial (aI (eI _ (aI rfl (.tail _ (.tail _ (.head _))))) (aI trivial trivial))) (GO.nil ?_)))
  refine SX.seq (SX.seq ?_)
  refine SX.rr rfl ?_
  obtain ⟨p31,hj,hm⟩:=bindE hm
  refine SX.joinG (fun (g32:Nat)=>[(5,osl 0 g32 (p31.map Diag.av))]) (fun (g32:Nat)=>[oblk 2 g32 (p31.map Diag.av),ABlk.row 0 4 [sp.av],ABlk.row 0 2 [y28.av]]) (SX.condM rfl rfl hj (fun ht hj=>?_) (fun ht hj=>?_)) (fun g32=>?_)
  ·refine SX.rn 3 rfl ?_
   obtain ⟨y29,hy29,hj⟩:=bindE hj
   refine SOps.growM (f:=Diag.av) (xs:=x24) (ys:=[y28]) (b:=0) (g:=g25) rfl rfl rfl rfl rfl rfl rfl rfl rfl (fun _=>rfl) rfl hy29 fun g30=>(SOps.re rfl ?_)
   obtain rfl:=oj hj
   exact ⟨rfl,(g30),CutTo.sr rfl⟩
  ·refine SX.sk ?_
   obtain rfl:=oj hj
   exact ⟨rfl,(g25),CutTo.sr rfl⟩
  refine SX.seq (SX.rr rfl (SX.rt ?_))
  obtain rfl:=oj hm
  exact RetQ.mk (vs:=[osl 0 g32 (p31.map Diag.av)]) rfl (frozen_osl rfl (ApartL.map fun _ _=>(Diag.apart _)))
 ·intro r al' df' h' hr hq
  subst hr
  obtain rfl:=oj hm
  exact hq
end Go.AL
namespace Go.AL
open Go Go.Proofs
set_option maxRecDepth 10000
theorem c97o (F:Nat) (sp:Spec) (res:(List Diag)) (hm:m97 F sp = some res) (h:List ABlk):∃ g,ACall Tryz.prog 97 [sp.av] h (.ret (osl h.length g (res.map Diag.av))) (h ++ [oblk 2 g (res.map Diag.av)]):=by
 unfold m97 at hm
 refine ACall.mirO 1 Tryz.func97 rfl (.cons (Spec.apart _) .nil) (ApartL.map fun _ _=>(Diag.apart _)) (nlst rfl) ?_ h
 show SX _ _ _ 92 _ _ _ _
 refine SX.seq (SX.rr rfl (SX.seq (SX.rr rfl ?_)))
 refine SX.seq (SX.seq ?_)
 refine SX.rr rfl ?_
 obtain ⟨o19,ho19,hm⟩:=bindE hm
 refine SX.forget (al':=[(1,AV.ptr 1 0 0 0),(3,osl 0 0 (([]).map Diag.av)),(4,AV.int .i64 0)]) (leA_of rfl) ?_
 refine SX.iter (fun (s1:Int×List Diag) (g2:Nat)=>[(1,AV.ptr 1 0 0 0),(3,osl 0 g2 (s1.2.map Diag.av)),(4,AV.int .i64 s1.1)]) (fun (s1:Int×List Diag) (g2:Nat)=>[oblk 2 g2 (s1.2.map Diag.av),ABlk.row 0 4 [sp.av]]) (fun (x17:List Diag) (g18:Nat)=>[(1,AV.ptr 1 0 0 0),(3,osl 0 g18 (x17.map Diag.av))]) (fun (x17:List Diag) (g18:Nat)=>[oblk 2 g18 (x17.map Diag.av),ABlk.row 0 4 [sp.av]]) (fun r al df h=>RetO Tryz.prog Tryz.f97 2 (r.map Diag.av) al df h) (0) ho19 rfl rfl ?_ ?_ ?_
 ·intro s1 g2 out3 hb
  refine SX.seq (SX.seq ?_)
  refine SX.rn 3 rfl (SOps.light rfl rfl (lightV_len (f:=Sort'.av) (xs:=sp.sorts) rfl rfl Tryz.underlying22 rfl) rdNone (SOps.re rfl ?_))
  refine SX.condM rfl rfl hb (fun ht hb=>?_) (fun ht hb=>?_)
  ·refine SX.sk (SX.seq (SX.block (SX.seq (SX.rr rfl ?_))))
   refine SX.seq (SX.seq ?_)
   refine SX.rr rfl ?_
   obtain ⟨o13,ho13,hb⟩:=bindE hb
   refine SX.forget (al':=[(1,AV.ptr 1 0 0 0),(3,osl 0 g2 (s1.2.map Diag.av)),(4,AV.int .i64 s1.1),(5,AV.bool false),(6,AV.int .i64 0)]) (leA_of rfl) ?_
   refine SX.iter (fun (s4:Bool×Int) (g5:Unit)=>[(1,AV.ptr 1 0 0 0),(3,osl 0 g2 (s1.2.map Diag.av)),(4,AV.int .i64 s1.1),(5,AV.bool s4.1),(6,AV.int .i64 s4.2)]) (fun (s4:Bool×Int) (g5:Unit)=>[oblk 2 g2 (s1.2.map Diag.av),ABlk.row 0 4 [sp.av]]) (fun (x11:Bool) (g12:Unit)=>[(1,AV.ptr 1 0 0 0),(3,osl 0 g2 (s1.2.map Diag.av)),(4,AV.int .i64 s1.1),(5,AV.bool x11)]) (fun (x11:Bool) (g12:Unit)=>[oblk 2 g2 (s1.2.map Diag.av),ABlk.row 0 4 [sp.av]]) (fun r al df h=>RetO Tryz.prog Tryz.f97 2 (r.map Diag.av) al df h) () ho13 rfl rfl ?_ ?_ ?_
   ·intro s4 g5 out6 hb
    refine SX.seq (SX.seq ?_)
    refine SX.rr rfl ?_
    refine SX.condM rfl rfl hb (fun ht hb=>?_) (fun ht hb=>?_)
    ·refine SX.sk (SX.seq (SX.block ?_))
     obtain ⟨p9,hj,hb⟩:=bindE hb
     refine SX.join ([(1,AV.ptr 1 0 0 0),(3,osl 0 g2 (s1.2.map Diag.av)),(4,AV.int .i64 s1.1),(6,AV.int .i64 s4.2),(5,AV.bool p9)]) ([oblk 2 g2 (s1.2.map Diag.av),ABlk.row 0 4 [sp.av]]) (SX.draw follows_mixed rfl rdNone ?_) ?_
     ·refine PO.rn 1 rfl ?_
      refine PO.splitM rfl rfl rfl hj (fun hj=>?_) (fun hj=>?_)
      ·refine PO.re rfl ?_
       obtain rfl:=oj hj
       exact ⟨rfl,CutTo.sr rfl⟩
      ·refine PO.rn 3 rfl ?_
       obtain ⟨y7,hy7,hj⟩:=bindE hj
       refine PO.light rfl rfl (lightV_idx (f:=Sort'.av) (xs:=sp.sorts) rfl rfl Tryz.underlying22 rfl hy7) (PO.rn 5 rfl ?_)
       obtain ⟨y8,hy8,hj⟩:=bindE hj
       refine PO.light rfl rfl (lightV_idx (f:=Sort'.av) (xs:=sp.sorts) rfl rfl Tryz.underlying22 rfl hy8) (PO.re rfl ?_)
       obtain rfl:=oj hj
       exact ⟨rfl,CutTo.sr rfl⟩
     refine SX.rr rfl ?_
     exact eI _ (eI () (aI (ojs hb) (CutTo.sr rfl)))
    ·refine SX.ex ?_
     exact aI rfl (eI _ (eI () (aI (ojs hb) (CutTo.sr rfl))))
   ·intro x11 g12 he
    subst he
    refine SX.seq (SX.rr rfl ?_)
    refine SX.condM rfl rfl hb (fun ht hb=>?_) (fun ht hb=>?_)
    ·refine SX.rn 3 rfl ?_
     obtain ⟨y14,hy14,hb⟩:=bindE hb
     refine SOps.growM (f:=Diag.av) (xs:=s1.2) (ys:=[(Diag.mk 41 0)]) (b:=0) (g:=g2) rfl rfl rfl rfl rfl rfl rfl rfl rfl (fun _=>rfl) rfl hy14 fun g15=>(SOps.re rfl (SX.rr rfl ?_))
     exact eI _ (eI (g15) (aI (ojs hb) (CutTo.sr rfl)))
    ·refine SX.sk (SX.rr rfl ?_)
     exact eI _ (eI (g2) (aI (ojs hb) (CutTo.sr rfl)))
   ·intro r al' df' h' hr hq
    subst hr
    exact eI _ (aI (ojs hb) hq)
  ·refine SX.ex ?_
   exact aI rfl (eI _ (eI (g2) (aI (ojs hb) (CutTo.sr rfl))))
 ·intro x17 g18 he
  subst he
  refine SX.seq (SX.seq ?_)
  refine SX.rr rfl ?_
  obtain ⟨o41,ho41,hm⟩:=bindE hm
  refine SX.forget (al':=[(1,AV.ptr 1 0 0 0),(3,osl 0 g18 (x17.map Diag.av)),(7,AV.int .i64 0)]) (leA_of rfl) ?_
  refine SX.iter (fun (s20:Int×List Diag) (g21:Nat)=>[(1,AV.ptr 1 0 0 0),(3,osl 0 g21 (s20.2.map Diag.av)),(7,AV.int .i64 s20.1)]) (fun (s20:Int×List Diag) (g21:Nat)=>[oblk 2 g21 (s20.2.map Diag.av),ABlk.row 0 4 [sp.av]]) (fun (x39:List Diag) (g40:Nat)=>[(3,osl 0 g40 (x39.map Diag.av))]) (fun (x39:List Diag) (g40:Nat)=>[oblk 2 g40 (x39.map Diag.av),ABlk.row 0 4 [sp.av]]) (fun r al df h=>RetO Tryz.prog Tryz.f97 2 (r.map Diag.av) al df h) (g18) ho41 rfl rfl ?_ ?_ ?_
  ·intro s20 g21 out22 hb
   refine SX.seq (SX.seq ?_)
   refine SX.rn 3 rfl (SOps.light rfl rfl (lightV_len (f:=Field.av) (xs:=sp.fields) rfl rfl Tryz.underlying23 rfl) rdNone (SOps.re rfl ?_))
   refine SX.condM rfl rfl hb (fun ht hb=>?_) (fun ht hb=>?_)
   ·refine SX.sk (SX.seq (SX.block (SX.seq (SX.rr rfl ?_))))
    refine SX.seq (SX.seq ?_)
    refine SX.rr rfl ?_
    obtain ⟨o35,ho35,hb⟩:=bindE hb
    refine SX.forget (al':=[(1,AV.ptr 1 0 0 0),(3,osl 0 g21 (s20.2.map Diag.av)),(7,AV.int .i64 s20.1),(8,AV.bool false),(9,AV.int .i64 0)]) (leA_of rfl) ?_
    refine SX.iter (fun (s23:Bool×Int) (g24:Unit)=>[(1,AV.ptr 1 0 0 0),(3,osl 0 g21 (s20.2.map Diag.av)),(7,AV.int .i64 s20.1),(8,AV.bool s23.1),(9,AV.int .i64 s23.2)]) (fun (s23:Bool×Int) (g24:Unit)=>[oblk 2 g21 (s20.2.map Diag.av),ABlk.row 0 4 [sp.av]]) (fun (x33:Bool) (g34:Unit)=>[(1,AV.ptr 1 0 0 0),(3,osl 0 g21 (s20.2.map Diag.av)),(7,AV.int .i64 s20.1),(8,AV.bool x33)]) (fun (x33:Bool) (g34:Unit)=>[oblk 2 g21 (s20.2.map Diag.av),ABlk.row 0 4 [sp.av]]) (fun r al df h=>RetO Tryz.prog Tryz.f97 2 (r.map Diag.av) al df h) () ho35 rfl rfl ?_ ?_ ?_
    ·intro s23 g24 out25 hb
     refine SX.seq (SX.seq ?_)
     refine SX.rr rfl ?_
     refine SX.condM rfl rfl hb (fun ht hb=>?_) (fun ht hb=>?_)
     ·refine SX.sk (SX.seq (SX.block ?_))
      obtain ⟨p31,hj,hb⟩:=bindE hb
      refine SX.join ([(1,AV.ptr 1 0 0 0),(3,osl 0 g21 (s20.2.map Diag.av)),(7,AV.int .i64 s20.1),(9,AV.int .i64 s23.2),(8,AV.bool p31)]) ([oblk 2 g21 (s20.2.map Diag.av),ABlk.row 0 4 [sp.av]]) (SX.draw follows_mixed rfl rdNone ?_) ?_
      ·refine PO.rn 1 rfl ?_
       refine PO.splitM rfl rfl rfl hj (fun hj=>?_) (fun hj=>?_)
       ·refine PO.re rfl ?_
        obtain rfl:=oj hj
        exact ⟨rfl,CutTo.sr rfl⟩
       ·refine PO.rn 3 rfl ?_
        obtain ⟨y26,hy26,hj⟩:=bindE hj
        refine PO.light rfl rfl (lightV_idx (f:=Field.av) (xs:=sp.fields) rfl rfl Tryz.underlying23 rfl hy26) (PO.rn 5 rfl ?_)
        obtain ⟨y27,hy27,hj⟩:=bindE hj
        refine PO.light rfl rfl (lightV_idx (f:=Field.av) (xs:=sp.fields) rfl rfl Tryz.underlying23 rfl hy27) (PO.rn 3 rfl ?_)
        refine PO.splitM rfl rfl rfl hj (fun hj=>?_) (fun hj=>?_)
        ·refine PO.rn 3 rfl ?_
         obtain ⟨y28,hy28,hj⟩:=bindE hj
         refine PO.light rfl rfl (lightV_idx (f:=Field.av) (xs:=sp.fields) rfl rfl Tryz.underlying23 rfl hy28) (PO.rn 5 rfl ?_)
         obtain ⟨y29,hy29,hj⟩:=bindE hj
         refine PO.light rfl rfl (lightV_idx (f:=Field.av) (xs:=sp.fields) rfl rfl Tryz.underlying23 rfl hy29) (PO.rn 2 rfl ?_)
         obtain ⟨y30,hy30,hj⟩:=bindE hj
         refine PO.call rfl rfl rfl rfl rfl (c151 F y28.sorts y29.sorts y30 hy30 _) (PO.re rfl ?_)
         obtain rfl:=oj hj
         exact ⟨rfl,CutTo.sr rfl⟩
        ·refine PO.re rfl ?_
         obtain rfl:=oj hj
         exact ⟨rfl,CutTo.sr rfl⟩
      refine SX.rr rfl ?_
      exact eI _ (eI () (aI (ojs hb) (CutTo.sr rfl)))
     ·refine SX.ex ?_
      exact aI rfl (eI _ (eI () (aI (ojs hb) (CutTo.sr rfl))))
    ·intro x33 g34 he
     subst he
     refine SX.seq (SX.rr rfl ?_)
     refine SX.condM rfl rfl hb (fun ht hb=>?_) (fun ht hb=>?_)
     ·refine SX.rn 3 rfl ?_
      obtain ⟨y36,hy36,hb⟩:=bindE hb
      refine SOps.growM (f:=Diag.av) (xs:=s20.2) (ys:=[(Diag.mk 41 0)]) (b:=0) (g:=g21) rfl rfl rfl rfl rfl rfl rfl rfl rfl (fun _=>rfl) rfl hy36 fun g37=>(SOps.re rfl (SX.rr rfl ?_))
      exact eI _ (eI (g37) (aI (ojs hb) (CutTo.sr rfl)))
     ·refine SX.sk (SX.rr rfl ?_)
      exact eI _ (eI (g21) (aI (ojs hb) (CutTo.sr rfl)))
    ·intro r al' df' h' hr hq
     subst hr
     exact eI _ (aI (ojs hb) hq)
   ·refine SX.ex ?_
    exact aI rfl (eI _ (eI (g21) (aI (ojs hb) (CutTo.sr rfl))))
  ·intro x39 g40 he
   subst he
   refine SX.seq (SX.rr rfl (SX.rt ?_))
   obtain rfl:=oj hm
   exact RetOQ.mk (vs:=[osl 0 g40 (x39.map Diag.av)]) rfl (.mk rfl)
  ·intro r al' df' h' hr hq
   subst hr
   obtain rfl:=oj hm
   exact hq
 ·intro r al' df' h' hr hq
  subst hr
  obtain rfl:=oj hm
  exact hq
def m49 (F:Nat) (sp:Spec):Option (List Diag):=
 (m97 F sp).bind fun y1=>
 (runs (fun (s3:Int×List Diag)=>
 (bif decide (s3.1 < (sp.preds.length:Int)) then
 (m98 F sp s3.1).bind fun y6=>
 (app s3.2 y6).bind fun y7=>
 some (Out.next (w64 (s3.1 + 1),y7))
 else
 some (Out.exit (s3.2)):Option (Out (Int×List Diag) (List Diag) (List Diag)))) F (0,y1)).bind fun (o11:(List Diag) ⊕ (List Diag))=>(match o11 with
 | .inl x9=>
 (runs (fun (s12:Int×List Diag)=>
 (bif decide (s12.1 < (sp.facts.length:Int)) then
 (runs (fun (s15:Bool×Int)=>
 (bif decide (s15.2 < s12.1) then
 (bif s15.1 then
 some (true)
 else
 (idx sp.facts s15.2).bind fun y18=>
 (idx sp.facts s12.1).bind fun y19=>
 some ((y18.name.toList == y19.name.toList))).bind fun p20=>
 some (Out.next (p20,w64 (s15.2 + 1)))
 else
 some (Out.exit (s15.1)):Option (Out (Bool×Int) (Bool) (List Diag)))) F (false,0)).bind fun (o24:(Bool) ⊕ (List Diag))=>(match o24 with
 | .inl x22=>
 (bif x22 then
 (app s12.2 ([(Diag.mk 41 0)])).bind fun y25=>
 some (y25)
 else
 some (s12.2)).bind fun p27=>
 (idx sp.facts s12.1).bind fun y29=>
 (m99 F sp ([]) y29.body).bind fun y30=>
 bif (y30.err != 0) then
 (app p27 ([y30])).bind fun y31=>
 some (Out.next (w64 (s12.1 + 1),y31))
 else
 some (Out.next (w64 (s12.1 + 1),p27))
 | .inr r33=>some (Out.ret r33))
 else
 some (Out.exit (s12.2)):Option (Out (Int×List Diag) (List Diag) (List Diag)))) F (0,x9)).bind fun (o36:(List Diag) ⊕ (List Diag))=>(match o36 with
 | .inl x34=>
 some x34
 | .inr r37=>some r37)
 | .inr r38=>some r38)
theorem c49 (F:Nat) (sp:Spec) (res:(List Diag)) (hm:m49 F sp = some res) (h:List ABlk):ACall Tryz.prog 49 [sp.av] h (.ret (AV.vw 2 (res.map Diag.av))) h:=by
 unfold m49 at hm
 refine ACall.mir 0 Tryz.func49 rfl (.cons (Spec.apart _) .nil) (nlst rfl) ?_ h
 show SX _ _ _ 72 _ _ _ _
 refine SX.seq (SX.rr rfl (SX.seq (SX.rn 1 rfl ?_)))
 obtain ⟨y1,hy1,hm⟩:=bindE hm
 refine SOps.callO rfl rfl rfl rfl rfl (c97o F sp y1 hy1 _) fun g2=>(SOps.re rfl ?_)
 refine SX.seq (SX.seq ?_)
 refine SX.rr rfl ?_
 obtain ⟨o11,ho11,hm⟩:=bindE hm
 refine SX.forget (al':=[(1,AV.ptr 0 0 0 0),(3,osl 1 g2 (y1.map Diag.av)),(4,AV.int .i64 0)]) (leA_of rfl) ?_
 refine SX.iter (fun (s3:Int×List Diag) (g4:Nat)=>[(1,AV.ptr 0 0 0 0),(3,osl 1 g4 (s3.2.map Diag.av)),(4,AV.int .i64 s3.1)]) (fun (s3:Int×List Diag) (g4:Nat)=>[ABlk.row 0 4 [sp.av],oblk 2 g4 (s3.2.map Diag.av)]) (fun (x9:List Diag) (g10:Nat)=>[(1,AV.ptr 0 0 0 0),(3,osl 1 g10 (x9.map Diag.av))]) (fun (x9:List Diag) (g10:Nat)=>[ABlk.row 0 4 [sp.av],oblk 2 g10 (x9.map Diag.av)]) (fun r al df h=>Ret Tryz.prog Tryz.f49 (AV.vw 2 (r.map Diag.av)) al df h) (g2) ho11 rfl rfl ?_ ?_ ?_
 ·intro s3 g4 out5 hb
  refine SX.seq (SX.seq ?_)
  refine SX.rn 3 rfl (SOps.light rfl rfl (lightV_len (f:=Pred.av) (xs:=sp.preds) rfl rfl Tryz.underlying24 rfl) rdNone (SOps.re rfl ?_))
  refine SX.condM rfl rfl hb (fun ht hb=>?_) (fun ht hb=>?_)
  ·refine SX.sk (SX.seq (SX.block (SX.rn 3 rfl ?_)))
   obtain ⟨y6,hy6,hb⟩:=bindE hb
   refine SOps.call rfl rfl rfl rfl rfl (c98 F sp s3.1 y6 hy6 _) rdNone ?_
   obtain ⟨y7,hy7,hb⟩:=bindE hb
   refine SOps.growM (f:=Diag.av) (xs:=s3.2) (ys:=y6) (b:=1) (g:=g4) rfl rfl rfl rfl rfl rfl rfl rfl rfl (fun _=>rfl) rfl hy7 fun g8=>(SOps.re rfl (SX.rr rfl ?_))
   exact eI _ (eI (g8) (aI (ojs hb) (CutTo.sr rfl)))
  ·refine SX.ex ?_
   exact aI rfl (eI _ (eI (g4) (aI (ojs hb) (CutTo.sr rfl))))
 ·intro x9 g10 he
  subst he
  refine SX.seq (SX.seq ?_)
  refine SX.rr rfl ?_
  obtain ⟨o36,ho36,hm⟩:=bindE hm
  refine SX.forget (al':=[(1,AV.ptr 0 0 0 0),(3,osl 1 g10 (x9.map Diag.av)),(5,AV.int .i64 0)]) (leA_of rfl) ?_
  refine SX.iter (fun (s12:Int×List Diag) (g13:Nat)=>[(1,AV.ptr 0 0 0 0),(3,osl 1 g13 (s12.2.map Diag.av)),(5,AV.int .i64 s12.1)]) (fun (s12:Int×List Diag) (g13:Nat)=>[ABlk.row 0 4 [sp.av],oblk 2 g13 (s12.2.map Diag.av)]) (fun (x34:List Diag) (g35:Nat)=>[(3,osl 1 g35 (x34.map Diag.av))]) (fun (x34:List Diag) (g35:Nat)=>[ABlk.row 0 4 [sp.av],oblk 2 g35 (x34.map Diag.av)]) (fun r al df h=>Ret Tryz.prog Tryz.f49 (AV.vw 2 (r.map Diag.av)) al df h) (g10) ho36 rfl rfl ?_ ?_ ?_
  ·intro s12 g13 out14 hb
   refine SX.seq (SX.seq ?_)
   refine SX.rn 3 rfl (SOps.light rfl rfl (lightV_len (f:=Fact.av) (xs:=sp.facts) rfl rfl Tryz.underlying25 rfl) rdNone (SOps.re rfl ?_))
   refine SX.condM rfl rfl hb (fun ht hb=>?_) (fun ht hb=>?_)
   ·refine SX.sk (SX.seq (SX.block (SX.seq (SX.rr rfl ?_))))
    refine SX.seq (SX.seq ?_)
    refine SX.rr rfl ?_
    obtain ⟨o24,ho24,hb⟩:=bindE hb
    refine SX.forget (al':=[(1,AV.ptr 0 0 0 0),(3,osl 1 g13 (s12.2.map Diag.av)),(5,AV.int .i64 s12.1),(6,AV.bool false),(7,AV.int .i64 0)]) (leA_of rfl) ?_
    refine SX.iter (fun (s15:Bool×Int) (g16:Unit)=>[(1,AV.ptr 0 0 0 0),(3,osl 1 g13 (s12.2.map Diag.av)),(5,AV.int .i64 s12.1),(6,AV.bool s15.1),(7,AV.int .i64 s15.2)]) (fun (s15:Bool×Int) (g16:Unit)=>[ABlk.row 0 4 [sp.av],oblk 2 g13 (s12.2.map Diag.av)]) (fun (x22:Bool) (g23:Unit)=>[(1,AV.ptr 0 0 0 0),(3,osl 1 g13 (s12.2.map Diag.av)),(5,AV.int .i64 s12.1),(6,AV.bool x22)]) (fun (x22:Bool) (g23:Unit)=>[ABlk.row 0 4 [sp.av],oblk 2 g13 (s12.2.map Diag.av)]) (fun r al df h=>Ret Tryz.prog Tryz.f49 (AV.vw 2 (r.map Diag.av)) al df h) () ho24 rfl rfl ?_ ?_ ?_
    ·intro s15 g16 out17 hb
     refine SX.seq (SX.seq ?_)
     refine SX.rr rfl ?_
     refine SX.condM rfl rfl hb (fun ht hb=>?_) (fun ht hb=>?_)
     ·refine SX.sk (SX.seq (SX.block ?_))
      obtain ⟨p20,hj,hb⟩:=bindE hb
      refine SX.join ([(1,AV.ptr 0 0 0 0),(3,osl 1 g13 (s12.2.map Diag.av)),(5,AV.int .i64 s12.1),(7,AV.int .i64 s15.2),(6,AV.bool p20)]) ([ABlk.row 0 4 [sp.av],oblk 2 g13 (s12.2.map Diag.av)]) (SX.draw follows_mixed rfl rdNone ?_) ?_
      ·refine PO.rn 1 rfl ?_
       refine PO.splitM rfl rfl rfl hj (fun hj=>?_) (fun hj=>?_)
       ·refine PO.re rfl ?_
        obtain rfl:=oj hj
        exact ⟨rfl,CutTo.sr rfl⟩
       ·refine PO.rn 3 rfl ?_
        obtain ⟨y18,hy18,hj⟩:=bindE hj
        refine PO.light rfl rfl (lightV_idx (f:=Fact.av) (xs:=sp.facts) rfl rfl Tryz.underlying25 rfl hy18) (PO.rn 5 rfl ?_)
        obtain ⟨y19,hy19,hj⟩:=bindE hj
        refine PO.light rfl rfl (lightV_idx (f:=Fact.av) (xs:=sp.facts) rfl rfl Tryz.underlying25 rfl hy19) (PO.re rfl ?_)
        obtain rfl:=oj hj
        exact ⟨rfl,CutTo.sr rfl⟩
      refine SX.rr rfl ?_
      exact eI _ (eI () (aI (ojs hb) (CutTo.sr rfl)))
     ·refine SX.ex ?_
      exact aI rfl (eI _ (eI () (aI (ojs hb) (CutTo.sr rfl))))
    ·intro x22 g23 he
     subst he
     refine SX.seq (SX.seq ?_)
     refine SX.rr rfl ?_
     obtain ⟨p27,hj,hb⟩:=bindE hb
     refine SX.joinG (fun (g28:Nat)=>[(1,AV.ptr 0 0 0 0),(5,AV.int .i64 s12.1),(3,osl 1 g28 (p27.map Diag.av))]) (fun (g28:Nat)=>[ABlk.row 0 4 [sp.av],oblk 2 g28 (p27.map Diag.av)]) (SX.condM rfl rfl hj (fun ht hj=>?_) (fun ht hj=>?_)) (fun g28=>?_)
     ·refine SX.rn 3 rfl ?_
      obtain ⟨y25,hy25,hj⟩:=bindE hj
      refine SOps.growM (f:=Diag.av) (xs:=s12.2) (ys:=[(Diag.mk 41 0)]) (b:=1) (g:=g13) rfl rfl rfl rfl rfl rfl rfl rfl rfl (fun _=>rfl) rfl hy25 fun g26=>(SOps.re rfl ?_)
      obtain rfl:=oj hj
      exact ⟨rfl,(g26),CutTo.sr rfl⟩
     ·refine SX.sk ?_
      obtain rfl:=oj hj
      exact ⟨rfl,(g13),CutTo.sr rfl⟩
     refine SX.seq ?_
     obtain ⟨y29,hy29,hb⟩:=bindE hb
     obtain ⟨y30,hy30,hb⟩:=bindE hb
     refine SX.drawG 768 1 [(0,[ABlk.row 0 4 [sp.av],oblk 2 g28 (p27.map Diag.av),ABlk.resv]),(256,[ABlk.row 0 4 [sp.av],oblk 2 g28 (p27.map Diag.av),ABlk.row 0 2 [d0]]),(768,[ABlk.row 0 4 [sp.av],oblk 2 g28 (p27.map Diag.av),ABlk.row 0 2 [y30.av]])] ([ABlk.row 0 4 [sp.av],oblk 2 g28 (p27.map Diag.av),ABlk.row 0 2 [y30.av]]) follows_mixed rfl rfl (.head _) (aI trivial (aI trivial (aI rfl trivial))) ?_
     iterate 4 refine GO.light (v:=_) rfl rfl rfl (aI rfl (aI rfl (aI trivial trivial))) ?_
     refine GO.light rfl rfl rfl (aI (lightV_idx (f:=Fact.av) (xs:=sp.facts) rfl rfl Tryz.underlying25 rfl hy29) (aI (lightV_idx (f:=Fact.av) (xs:=sp.facts) rfl rfl Tryz.underlying25 rfl hy29) (aI trivial trivial))) ?_
     iterate 2 refine GO.light (v:=_) rfl rfl rfl (aI rfl (aI rfl (aI trivial trivial))) ?_
     refine GO.call rfl rfl rfl rfl rfl rfl (aI (ACall.weak (.cons .refl (.cons .nil (.cons .refl .nil))) (c99 F sp ([]) y29.body y30 hy30 _)) (aI (ACall.weak (.cons .refl (.cons .nil (.cons .refl .nil))) (c99 F sp ([]) y29.body y30 hy30 _)) (aI trivial trivial))) (GO.fill (b:=2) (v:=_) rfl rfl rfl (aI (eI _ (aI rfl (.tail _ (.head _)))) (aI trivial (aI trivial trivial))) (GO.heavy (v:=_) rfl rfl rfl (aI trivial (aI (eI _ (aI rfl (.tail _ (.tail _ (.head _))))) (aI trivial trivial))) (GO.nil (SX.seq (SX.rr rfl ?_)))))
     refine SX.condM rfl rfl hb (fun ht hb=>?_) (fun ht hb=>?_)
     ·refine SX.rn 3 rfl ?_
      obtain ⟨y31,hy31,hb⟩:=bindE hb
      refine SOps.growM (f:=Diag.av) (xs:=p27) (ys:=[y30]) (b:=1) (g:=g28) rfl rfl rfl rfl rfl rfl rfl rfl rfl (fun _=>rfl) rfl hy31 fun g32=>(SOps.re rfl (SX.rr rfl ?_))
      exact eI _ (eI (g32) (aI (ojs hb) (CutTo.drop [_] (leA_of rfl) (Nat.le_of_ble_eq_true rfl) (aI (Nat.le_of_ble_eq_true rfl) (aI (below_osl (Nat.le_of_ble_eq_true rfl) (belowL_map fun _=>(Diag.belowN _ _))) (aI trivial trivial))) (aI (aI (Spec.belowN _ _) trivial) (aI (below_oblk (belowL_map fun _=>(Diag.belowN _ _))) trivial)))))
     ·refine SX.sk (SX.rr rfl ?_)
      exact eI _ (eI (g28) (aI (ojs hb) (CutTo.drop [_] (leA_of rfl) (Nat.le_of_ble_eq_true rfl) (aI (Nat.le_of_ble_eq_true rfl) (aI (below_osl (Nat.le_of_ble_eq_true rfl) (belowL_map fun _=>(Diag.belowN _ _))) (aI trivial trivial))) (aI (aI (Spec.belowN _ _) trivial) (aI (below_oblk (belowL_map fun _=>(Diag.belowN _ _))) trivial)))))
    ·intro r al' df' h' hr hq
     subst hr
     exact eI _ (aI (ojs hb) hq)
   ·refine SX.ex ?_
    exact aI rfl (eI _ (eI (g13) (aI (ojs hb) (CutTo.sr rfl))))
  ·intro x34 g35 he
   subst he
   refine SX.seq (SX.rr rfl (SX.rt ?_))
   obtain rfl:=oj hm
   exact RetQ.mk (vs:=[osl 1 g35 (x34.map Diag.av)]) rfl (frozen_osl rfl (ApartL.map fun _ _=>(Diag.apart _)))
  ·intro r al' df' h' hr hq
   subst hr
   obtain rfl:=oj hm
   exact hq
 ·intro r al' df' h' hr hq
  subst hr
  obtain rfl:=oj hm
  exact hq
end Go.AL
namespace Go.AL
open Go
set_option maxRecDepth 4000
theorem e243 (l:List Int) (hl:l.length≤LIM):Ev (fun s=>s.arity = (l.length:Int)) (fun F=>m243 F l):=by
 simp only [LIM] at hl
 unfold m243
 refine Ev.bindS TT (fun _=>False) ?_ (fun x _=>?_) (fun _ h=>h.elim)
 ·refine Ev.loop (T:=Int) l.length (fun i t=>(t,(i:Int))) (fun _ _=>True) rfl trivial (fun i t hi _=>Ev.dt (Int.ofNat_lt.2 hi) (Ev.bind (Ev.idxN hi) (fun y _=>Ev.pure ⟨_,by rw [w64_succ (by omega)],trivial⟩))) (fun t _=>Ev.df (Int.lt_irrefl _) (Ev.pure trivial))
 refine Ev.bind (P:=fun p=>p = true→0≤x∧x < 64) (Ev.dec (fun h=>Ev.pure (fun h2=>⟨h,of_decide_eq_true h2⟩)) (fun _=>Ev.pure (fun h=>by cases h))) (fun p hp=>?_)
 refine Ev.bind (P:=fun s=>s.arity = (l.length:Int)) (Ev.ite (fun h=>Ev.bind (Ev.inr (hp h).1 (hp h).2) (fun y _=>Ev.pure rfl)) (fun _=>Ev.pure rfl)) (fun s hs=>Ev.pure hs)
theorem e151 (a b:List Int) (ha:a.length≤LIM):Tot (fun F=>m151 F a b):=by
 simp only [LIM] at ha
 unfold m151
 refine Ev.ite (fun _=>Ev.pure trivial) (fun h=>?_)
 have h:a.length = b.length:=by simp at h; omega
 refine Ev.bindS TT TT (Ev.each (n:=a.length) (by omega) TT trivial (fun i hi _=>?_) (fun _=>trivial)) (fun _ _=>Ev.pure trivial) (fun _ _=>Ev.pure trivial)
 exact Ev.bind (Ev.idxN hi) (fun y _=>Ev.bind (Ev.idxN (by omega)) (fun z _=>Ev.ite (fun _=>Ev.pure trivial) (fun _=>Ev.pure ⟨rfl,trivial⟩)))
theorem eDup {R:Type} {f:Nat→Int→Option Bool} (i:Nat) (hi:i < 4611686018427387904) (hf:∀ j:Nat,j < i→Tot (fun F=>f F j)):Ev (OnS (R:=R) TT (fun _=>False)) (fun F=>runs (fun (s:Bool×Int)=>
  (bif decide (s.2 < (i:Int)) then
  (bif s.1 then some true else f F s.2).bind fun p=>some (Out.next (p,w64 (s.2 + 1)))
  else some (Out.exit s.1):Option (Out (Bool×Int) Bool R))) F (false,0)):=by
 refine Ev.loop (T:=Bool) i (fun j t=>(t,(j:Int))) (fun _ _=>True) rfl trivial (fun j t hj _=>Ev.dt (Int.ofNat_lt.2 hj) (Ev.bind (P:=TT) (Ev.ite (fun _=>Ev.pure trivial) (fun _=>hf j hj)) (fun p _=>Ev.pure ⟨_,by rw [w64_succ (by omega)],trivial⟩))) (fun t _=>Ev.df (Int.lt_irrefl _) (Ev.pure trivial))
theorem e97 (sp:Spec) (h:SpOk sp):Ev (fun r=>r.length≤10) (fun F=>m97 F sp):=by
 have h1:=h.sorts; have h2:=h.fields
 unfold m97
 refine Ev.bindS (fun r=>r.length≤4) (fun _=>False) ?_ (fun x hx=>?_) (fun _ h=>h.elim)
 ·refine Ev.loop (T:=List Diag) sp.sorts.length (fun i t=>((i:Int),t)) (fun i t=>t.length≤i) rfl (Nat.le_refl _) (fun i t hi ht=>Ev.dt (Int.ofNat_lt.2 hi) ?_) (fun t ht=>Ev.df (Int.lt_irrefl _) (Ev.pure (by show t.length≤4; omega)))
  refine Ev.bindS TT (fun _=>False) (eDup (f:=fun F z=>(idx sp.sorts z).bind fun y7=>(idx sp.sorts (i:Int)).bind fun y8=>some (y7.name.toList == y8.name.toList)) i (by omega) (fun j hj=>?_)) (fun b _=>?_) (fun _ h=>h.elim)
  ·exact Ev.bind (Ev.idxN (by omega)) (fun y _=>Ev.bind (Ev.idxN hi) (fun z _=>Ev.pure trivial))
  ·refine Ev.ite (fun _=>Ev.bind (Ev.app (by show t.length + 1 < _; omega)) (fun z hz=>Ev.pure ⟨z,by rw [w64_succ (by omega)],by rw [hz]; simp; omega⟩)) (fun _=>Ev.pure ⟨t,by rw [w64_succ (by omega)],by omega⟩)
 refine Ev.bindS (fun r=>r.length≤10) (fun _=>False) ?_ (fun x hx=>Ev.pure hx) (fun _ h=>h.elim)
 ·refine Ev.loop (T:=List Diag) sp.fields.length (fun i t=>((i:Int),t)) (fun i t=>t.length≤i + 4) rfl (by omega) (fun i t hi ht=>Ev.dt (Int.ofNat_lt.2 hi) ?_) (fun t ht=>Ev.df (Int.lt_irrefl _) (Ev.pure (by show t.length≤10; omega)))
  refine Ev.bindS TT (fun _=>False) (eDup (f:=fun F z=>(idx sp.fields z).bind fun y26=>(idx sp.fields (i:Int)).bind fun y27=>bif y26.name.toList == y27.name.toList then (idx sp.fields z).bind fun y28=>(idx sp.fields (i:Int)).bind fun y29=>(m151 F y28.sorts y29.sorts).bind fun y30=>some y30 else some false) i (by omega) (fun j hj=>?_)) (fun b _=>?_) (fun _ h=>h.elim)
  ·refine Ev.bind (Ev.idxN (by omega)) (fun y _=>Ev.bind (Ev.idxN hi) (fun z _=>Ev.ite (fun _=>?_) (fun _=>Ev.pure trivial)))
   refine Ev.bind (Ev.idxN (by omega)) (fun u hu=>Ev.bind (Ev.idxN hi) (fun v _=>Ev.bind (e151 _ _ ?_) (fun _ _=>Ev.pure trivial)))
   have:=(h.fsorts u (List.mem_of_getElem? hu)).2.1
   simp only [LIM]; omega
  ·refine Ev.ite (fun _=>Ev.bind (Ev.app (by show t.length + 1 < _; omega)) (fun z hz=>Ev.pure ⟨z,by rw [w64_succ (by omega)],by rw [hz]; simp; omega⟩)) (fun _=>Ev.pure ⟨t,by rw [w64_succ (by omega)],by omega⟩)
theorem e152 (sp:Spec) (h:sp.preds.length≤LIM) (calls:Int) (name:ByteArray):Ev (fun (r:Int)=>r = -1 ∨ ∃ i:Nat,r = i∧i < sp.preds.length) (fun F=>m152 F sp calls name):=by
 simp only [LIM] at h
 unfold m152
 refine Ev.bindS TT (fun (r:Int)=>∃ i:Nat,r = i∧i < sp.preds.length) ?_ (fun _ _=>Ev.pure (.inl rfl)) (fun r hr=>Ev.pure (.inr hr))
 refine Ev.loop (T:=Unit) sp.preds.length (fun i _=>(i:Int)) (fun _ _=>True) (t0:=()) rfl trivial (fun i t hi _=>?_) (fun t _=>?_)
 ·refine Ev.bind (P:=TT) (Ev.dec (fun _=>Ev.pure trivial) (fun _=>Ev.pure trivial)) (fun p _=>Ev.ite (fun _=>Ev.bind (Ev.idxN hi) (fun y _=>Ev.ite (fun _=>Ev.pure ⟨i,rfl,hi⟩) (fun _=>Ev.pure ⟨(),by rw [w64_succ (by omega)],trivial⟩))) (fun _=>Ev.pure trivial))
 ·refine Ev.bind (P:=fun p=>p = false) (Ev.dec (fun _=>Ev.pure (decide_eq_false (Int.lt_irrefl _))) (fun _=>Ev.pure rfl)) (fun p hp=>Ev.if hp (Ev.pure trivial))
theorem e282 (op:Int):Tot (fun F=>m282 F op):=by
 unfold m282
 refine Ev.bind (P:=TT) ?_ (fun _ _=>Ev.pure trivial)
 repeat' first | exact Ev.pure trivial | refine Ev.ite (fun _=>?_) (fun _=>?_)
theorem e283 (sp:Spec) (h:sp.preds.length≤LIM) (known:List Bool) (calls:Int) (name:ByteArray):Tot (fun F=>m283 F sp known calls name):=by
 unfold m283
 refine Ev.bind (e152 sp h calls name) (fun y _=>Ev.bind (P:=TT) ?_ (fun _ _=>Ev.pure trivial))
 exact Ev.dec (fun h0=>Ev.dec (fun h1=>Ev.bind (Ev.idx h0 h1) (fun _ _=>Ev.pure trivial)) (fun _=>Ev.pure trivial)) (fun _=>Ev.pure trivial)
def Ar (s:Set'):Prop:=1≤s.arity∧s.arity≤3
theorem e186 (sp:Spec) (hs:SpSm sp) (h:SpOk sp) (name:ByteArray):Ev (fun r=>r.2 ≠ 0→Ar r.1) (fun F=>m186 F sp name):=by
 have h1:=h.sorts; have h2:=h.fields
 unfold m186
 refine Ev.bindS (fun x=>x.1 ≠ 0→Ar x.2) (fun _=>False) ?_ (fun x hx=>?_) (fun _ h=>h.elim)
 ·refine Ev.loop (T:=Int×Set') sp.fields.length (fun i t=>(t.1,(i:Int),t.2)) (fun _ t=>t.1 ≠ 0→Ar t.2) (t0:=(0,Set'.mk 0 fun _=>false)) rfl (fun h=>absurd rfl h) (fun i t hi ht=>Ev.dt (Int.ofNat_lt.2 hi) ?_) (fun t ht=>Ev.df (Int.lt_irrefl _) (Ev.pure ht))
  refine Ev.bind (Ev.idxN hi) (fun y _=>Ev.ite (fun _=>?_) (fun _=>Ev.pure ⟨t,by rw [w64_succ (by omega)],ht⟩))
  refine Ev.bind (Ev.idxN hi) (fun z hz=>?_)
  have q:=h.fsorts z (List.mem_of_getElem? hz)
  exact Ev.bind (e243 z.sorts (by simp only [LIM]; omega)) (fun s hs=>Ev.pure ⟨(w64 (t.1 + 1),s),by rw [w64_succ (by omega)],fun _=>by constructor <;> (rw [hs]; omega)⟩)
 refine Ev.bindS (fun x=>x.1 ≠ 0→Ar x.2) (fun _=>False) ?_ (fun x hx=>Ev.pure hx) (fun _ h=>h.elim)
 refine Ev.loop (T:=Int×Set') sp.sorts.length (fun i t=>(t.1,(i:Int),t.2)) (fun _ t=>t.1 ≠ 0→Ar t.2) (t0:=(x.1,x.2)) rfl hx (fun i t hi ht=>Ev.dt (Int.ofNat_lt.2 hi) ?_) (fun t ht=>Ev.df (Int.lt_irrefl _) (Ev.pure ht))
 have a1:∀ (z:Int),Ev (fun s=>Ar s) (fun F=>m243 F [z]):=fun z=>(e243 [z] (by show 1≤1048576; omega)).mono fun s hs=>by constructor <;> (rw [hs]; simp)
 have a2:∀ (z:Int),Ev (fun s=>Ar s) (fun F=>m243 F [z,z]):=fun z=>(e243 [z,z] (by show 2≤1048576; omega)).mono fun s hs=>by constructor <;> (rw [hs]; simp)
 have nm:∀ b:ByteArray,b.size≤10→Tot (fun F=>((idx sp.sorts i).bind fun y17=>bif y17.ordered then (idx sp.sorts i).bind fun y18=>(sadd y18.name b).bind fun y19=>some (y19.toList == name.toList) else some false)):=fun b hb=>by
  refine Ev.bind (Ev.idxN hi) (fun y _=>Ev.ite (fun _=>Ev.bind (Ev.idxN hi) (fun z hz=>Ev.bind (Ev.sadd ?_) (fun _ _=>Ev.pure trivial))) (fun _=>Ev.pure trivial))
  have:=hs.sname z (List.mem_of_getElem? hz)
  simp only [LIM] at this
  omega
 refine Ev.bind (Ev.idxN hi) (fun y _=>?_)
 refine Ev.bind (P:=fun t=>t.1 ≠ 0→Ar t.2) (Ev.ite (fun _=>Ev.bind (a1 i) (fun s hs=>Ev.pure (fun _=>hs))) (fun _=>Ev.pure ht)) (fun p hp=>?_)
 refine Ev.bind (nm _ (by decide)) (fun q _=>?_)
 refine Ev.bind (P:=fun t=>t.1 ≠ 0→Ar t.2) (Ev.ite (fun _=>Ev.bind (a1 i) (fun s hs=>Ev.pure (fun _=>hs))) (fun _=>Ev.pure hp)) (fun p2 hp2=>?_)
 refine Ev.bind (nm _ (by decide)) (fun q _=>?_)
 exact Ev.ite (fun _=>Ev.bind (a2 i) (fun s hs=>Ev.pure ⟨(w64 (p2.1 + 1),s),by rw [w64_succ (by omega)],fun _=>hs⟩)) (fun _=>Ev.pure ⟨(p2.1,p2.2),by rw [w64_succ (by omega)],hp2⟩)
theorem e284 (v:View) (hs:SpSm v.sp) (h:SpOk v.sp) (env:List Var) (he:env.length≤1000000000) (hv:∀ x ∈ env,Ar x.set) (n:Node):Ev (fun r=>r.2.err = 0→Ar r.1) (fun F=>m284 F v env n):=by
 unfold m284
 refine Ev.bindS TT (fun r=>r.2.err = 0→Ar r.1) ?_ (fun _ _=>?_) (fun r hr=>Ev.pure hr)
 ·refine Ev.runs (fun s=>-1≤s∧s < env.length) (fun s=>(s + 1).toNat) ?_ (fun s hi=>?_)
  ·rw [w64_id (by omega) (by omega)]; omega
  ·refine Ev.dec (fun h0=>?_) (fun _=>Ev.pure trivial)
   refine Ev.bind (Ev.idx h0 hi.2) (fun y _=>Ev.ite (fun _=>Ev.bind (Ev.idx h0 hi.2) (fun z hz=>Ev.pure (fun _=>hv z (List.mem_of_getElem? hz)))) (fun _=>Ev.pure ?_))
   rw [w64_id (by omega) (by omega)]
   omega
 ·refine Ev.bind (e186 v.sp hs h n.name) (fun y hy=>Ev.ite (fun _=>Ev.pure (fun h=>by cases h)) (fun h0=>Ev.dec (fun _=>Ev.pure (fun h=>by cases h)) (fun _=>Ev.pure (fun _=>hy ?_))))
  intro e
  rw [e] at h0
  cases h0
end Go.AL
