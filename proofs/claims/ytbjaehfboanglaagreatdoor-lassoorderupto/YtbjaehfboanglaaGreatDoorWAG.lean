/- Part 7 of 11 of the proof: the lemmas and contracts of TR6 .. LHead. -/
import Derived.Test.YtbjaehfboanglaaGreatDoorWAF
set_option linter.unusedVariables false
set_option linter.unusedSimpArgs false
namespace Go.AL
open Go Go.Proofs
set_option maxRecDepth 10000
set_option maxHeartbeats 4000000
theorem slc_tail {α:Type} (c:α) (cs:List α):slc (c :: cs) 1 (c :: cs).length = some cs:=by
 unfold slc
 have h:(0:Int)≤1∧(1:Int)≤((c :: cs).length:Int)∧((c :: cs).length:Int)≤(c :: cs).length:=by
  simp only [List.length_cons]; omega
 rw [decide_eq_true h]
 simp
theorem eq0_cons {α:Type} (c:α) (cs:List α):(((c :: cs).length:Int) == 0) = false:=by
 simp only [List.length_cons]
 rw [beq_eq_false_iff_ne]
 omega
theorem c178 (sc:Scope) (i:Int) (cols:List Int) (h:List ABlk):ACall Tryz.prog 178 [sc.av,.int .i64 i,.vw 1 (cols.map (AV.int .i64))] h (.ret (.func (.func 237) [] [.rptr (.vw 1 (cols.map (AV.int .i64))),.rptr (.int .i64 i),.rptr sc.av])) h:=by
 refine ACall.mir 0 Tryz.func178 rfl (.cons (Scope.apart _) (.cons .int (.cons (.vw .ints) .nil))) (nlst rfl) ?_ h
 show SX _ _ _ 8 _ _ _ _
 refine SX.seq (SX.rr rfl (SX.seq (SX.rr rfl (SX.rt ?_))))
 exact RetQ.mk (vs:=[.func (.func 237) [] [.ptr 2 0 0 0,.ptr 1 0 0 0,.ptr 0 0 0 0]]) rfl (.func .nil (.cons (.ptr rfl rfl (Nat.succ_ne_zero _) (.apart (.vw .ints))) (.cons (.ptr rfl rfl (Nat.succ_ne_zero _) (.apart .int)) (.cons (.ptr rfl rfl (Nat.succ_ne_zero _) (.apart (Scope.apart _))) .nil))))
def m237 {W:Type} (F:Nat) (sc:Scope) (step:W→Int→Option W):List Int→Int→W→Option W
 | [],i,w=>step w i
 | c :: cs,i,w=>(m238 F sc c).bind fun first=>(runs (fun (s:Int×W)=>
  (idx sc.atoms c).bind fun n=>
  (bif decide (s.1 < w64 (first + n)) then
  (m112 F sc).bind fun tot=>
  (m237 F sc step cs (w64 (w64 (i * tot) + s.1)) s.2).bind fun w=>
  some (Out.next (w64 (s.1 + 1),w))
  else
  some (Out.exit s.2):Option (Out (Int×W) W Unit))) F (first,w)).bind fun (o:W ⊕ Unit)=>(match o with
  | .inl w=>some w
  | .inr _=>none)
theorem c237b1 {W:Type} (F:Nat) (sc:Scope) (step:W→Int→Option W) (i:Int) (w0 res:W) (hm:m237 F sc step [] i w0 = some res) {l:Nat} {T:W→List ABlk} (hy:YOk Tryz.prog l (AV.int .i64) T step 1 (fun _=>false)) (J:List ABlk) (hJ:AllD J) :
  ∃ own2 K2,own2.length = 1∧AllD K2∧ACall Tryz.prog 237 [.yield l,.rptr (.vw 1 (([]:List Int).map (AV.int .i64))),.rptr (.int .i64 i),.rptr sc.av] ([.resv] ++ (T w0 ++ J)) (.ret (.tup [])) (own2 ++ (T res ++ (J ++ K2))):=by
 refine ⟨[.row 0 1 [.yield l]],[],rfl,trivial,?_⟩
 rw [List.append_nil]
 refine ACall.done Tryz.func237 rfl rfl (nlst rfl) ?_
 show SX _ _ _ 48 _ _ _ _
 refine SX.seq (SX.region (SOps.fill (v:=_) 0 rfl rfl rfl rdNone (SOps.nil rdNone ?_)))
 refine SX.seq (SX.seq ?_)
 refine SX.rn 1 rfl (SOps.light rfl rfl (lightV_len (f:=(AV.int .i64)) (xs:=([]:List Int)) rfl rfl Tryz.underlying28 rfl) rdNone (SOps.light (v:=.bool true) rfl rfl rfl rdNone (SOps.nil rdNone ?_)))
 refine SX.cond (t:=true) rfl rfl (fun ht=>?_) (fun ht=>by cases ht)
 refine SX.seq (SX.rn 2 rfl (SOps.yield (own:=[.row 0 1 [.yield l]]) (v:=i) hy rfl rfl rfl rfl rfl rfl rfl (fun _ _=>avoid_noneB _) hJ trivial hm (SOps.nil rdNone (SX.rt ?_))))
 exact ⟨.inr rfl,rfl,rfl⟩
theorem c237b3 {W:Type} (F:Nat) (sc:Scope) (step:W→Int→Option W) (i:Int) (w0 res:W) (hm:m237 F sc step [] i w0 = some res) {l:Nat} {T:W→List ABlk} (hy:YOk Tryz.prog l (AV.int .i64) T step 3 (fun _=>false)) (J:List ABlk) (hJ:AllD J) :
  ∃ own2 K2,own2.length = 3∧AllD K2∧ACall Tryz.prog 237 [.yield l,.rptr (.vw 1 (([]:List Int).map (AV.int .i64))),.rptr (.int .i64 i),.rptr sc.av] ([.resv,.resv,.resv] ++ (T w0 ++ J)) (.ret (.tup [])) (own2 ++ (T res ++ (J ++ K2))):=by
 refine ⟨[.resv,.resv,.row 0 1 [.yield l]],[],rfl,trivial,?_⟩
 rw [List.append_nil]
 refine ACall.done Tryz.func237 rfl rfl (nlst rfl) ?_
 show SX _ _ _ 48 _ _ _ _
 refine SX.seq (SX.region (SOps.fill (v:=_) 2 rfl rfl rfl rdNone (SOps.nil rdNone ?_)))
 refine SX.seq (SX.seq ?_)
 refine SX.rn 1 rfl (SOps.light rfl rfl (lightV_len (f:=(AV.int .i64)) (xs:=([]:List Int)) rfl rfl Tryz.underlying28 rfl) rdNone (SOps.light (v:=.bool true) rfl rfl rfl rdNone (SOps.nil rdNone ?_)))
 refine SX.cond (t:=true) rfl rfl (fun ht=>?_) (fun ht=>by cases ht)
 refine SX.seq (SX.rn 2 rfl (SOps.yield (own:=[.resv,.resv,.row 0 1 [.yield l]]) (v:=i) hy rfl rfl rfl rfl rfl rfl rfl (fun _ _=>avoid_noneB _) hJ trivial hm (SOps.nil rdNone (SX.rt ?_))))
 exact ⟨.inr rfl,rfl,rfl⟩
theorem c237b5 {W:Type} (F:Nat) (sc:Scope) (step:W→Int→Option W) (i:Int) (w0 res:W) (hm:m237 F sc step [] i w0 = some res) {l:Nat} {T:W→List ABlk} (hy:YOk Tryz.prog l (AV.int .i64) T step 5 (fun _=>false)) (J:List ABlk) (hJ:AllD J) :
  ∃ own2 K2,own2.length = 5∧AllD K2∧ACall Tryz.prog 237 [.yield l,.rptr (.vw 1 (([]:List Int).map (AV.int .i64))),.rptr (.int .i64 i),.rptr sc.av] ([.resv,.resv,.resv,.resv,.resv] ++ (T w0 ++ J)) (.ret (.tup [])) (own2 ++ (T res ++ (J ++ K2))):=by
 refine ⟨[.resv,.resv,.resv,.resv,.row 0 1 [.yield l]],[],rfl,trivial,?_⟩
 rw [List.append_nil]
 refine ACall.done Tryz.func237 rfl rfl (nlst rfl) ?_
 show SX _ _ _ 48 _ _ _ _
 refine SX.seq (SX.region (SOps.fill (v:=_) 4 rfl rfl rfl rdNone (SOps.nil rdNone ?_)))
 refine SX.seq (SX.seq ?_)
 refine SX.rn 1 rfl (SOps.light rfl rfl (lightV_len (f:=(AV.int .i64)) (xs:=([]:List Int)) rfl rfl Tryz.underlying28 rfl) rdNone (SOps.light (v:=.bool true) rfl rfl rfl rdNone (SOps.nil rdNone ?_)))
 refine SX.cond (t:=true) rfl rfl (fun ht=>?_) (fun ht=>by cases ht)
 refine SX.seq (SX.rn 2 rfl (SOps.yield (own:=[.resv,.resv,.resv,.resv,.row 0 1 [.yield l]]) (v:=i) hy rfl rfl rfl rfl rfl rfl rfl (fun _ _=>avoid_noneB _) hJ trivial hm (SOps.nil rdNone (SX.rt ?_))))
 exact ⟨.inr rfl,rfl,rfl⟩
theorem c237b7 {W:Type} (F:Nat) (sc:Scope) (step:W→Int→Option W) (i:Int) (w0 res:W) (hm:m237 F sc step [] i w0 = some res) {l:Nat} {T:W→List ABlk} (hy:YOk Tryz.prog l (AV.int .i64) T step 7 (fun _=>false)) (J:List ABlk) (hJ:AllD J) :
  ∃ own2 K2,own2.length = 7∧AllD K2∧ACall Tryz.prog 237 [.yield l,.rptr (.vw 1 (([]:List Int).map (AV.int .i64))),.rptr (.int .i64 i),.rptr sc.av] ([.resv,.resv,.resv,.resv,.resv,.resv,.resv] ++ (T w0 ++ J)) (.ret (.tup [])) (own2 ++ (T res ++ (J ++ K2))):=by
 refine ⟨[.resv,.resv,.resv,.resv,.resv,.resv,.row 0 1 [.yield l]],[],rfl,trivial,?_⟩
 rw [List.append_nil]
 refine ACall.done Tryz.func237 rfl rfl (nlst rfl) ?_
 show SX _ _ _ 48 _ _ _ _
 refine SX.seq (SX.region (SOps.fill (v:=_) 6 rfl rfl rfl rdNone (SOps.nil rdNone ?_)))
 refine SX.seq (SX.seq ?_)
 refine SX.rn 1 rfl (SOps.light rfl rfl (lightV_len (f:=(AV.int .i64)) (xs:=([]:List Int)) rfl rfl Tryz.underlying28 rfl) rdNone (SOps.light (v:=.bool true) rfl rfl rfl rdNone (SOps.nil rdNone ?_)))
 refine SX.cond (t:=true) rfl rfl (fun ht=>?_) (fun ht=>by cases ht)
 refine SX.seq (SX.rn 2 rfl (SOps.yield (own:=[.resv,.resv,.resv,.resv,.resv,.resv,.row 0 1 [.yield l]]) (v:=i) hy rfl rfl rfl rfl rfl rfl rfl (fun _ _=>avoid_noneB _) hJ trivial hm (SOps.nil rdNone (SX.rt ?_))))
 exact ⟨.inr rfl,rfl,rfl⟩
theorem c237k1 {W:Type} (F:Nat) (sc:Scope) (step:W→Int→Option W):∀ (cols:List Int) (hcs:2 * cols.length + 1≤1) (i:Int) (w0 res:W) (hm:m237 F sc step cols i w0 = some res) {l:Nat} {T:W→List ABlk} (hy:YOk Tryz.prog l (AV.int .i64) T step 1 (fun _=>false)) (hl:1≤l)
  (t:Nat) (hT0:∀ w,(T w).length = t) (hT:∀ S,(∀ b,1≤b→S b = false)→∀ w,∀ b ∈ T w,avoidB S b) (J:List ABlk) (hJ:AllD J),
  ∃ own2 K2,own2.length = 1∧AllD K2∧ACall Tryz.prog 237 [.yield l,.rptr (.vw 1 (cols.map (AV.int .i64))),.rptr (.int .i64 i),.rptr sc.av] ([.resv] ++ (T w0 ++ J)) (.ret (.tup [])) (own2 ++ (T res ++ (J ++ K2)))
 | [],hcs,i,w0,res,hm,l,T,hy,hl,t,hT0,hT,J,hJ=>c237b1 F sc step i w0 res hm hy J hJ
 | c :: cs,hcs,i,w0,res,hm,l,T,hy,hl,t,hT0,hT,J,hJ=>absurd hcs (by simp)
def SK3 (b:Nat):Bool:=Nat.blt b 1 || Nat.beq b 2
theorem SK3_big (b:Nat) (h:3≤b):SK3 b = false:=by
 have h1:Nat.blt b 1 = false:=by
  cases hb:Nat.blt b 1 with
  | false=>rfl
  | true=>have:=Nat.le_of_ble_eq_true hb; omega
 have h2:Nat.beq b 2 = false:=by
  cases hb:Nat.beq b 2 with
  | false=>rfl
  | true=>have:=Nat.eq_of_beq_eq_true hb; omega
 simp [SK3,h1,h2]
theorem SK3_eq {n:Nat} (h:SK3 n = true):n = 0 ∨ n = 2:=by
 simp only [SK3,Bool.or_eq_true] at h
 rcases h with h | h
 ·have:=Nat.le_of_ble_eq_true h; omega
 ·have:=Nat.eq_of_beq_eq_true h; omega
theorem c237n3 {W:Type} (F:Nat) (sc:Scope) (step:W→Int→Option W) (c:Int) (cs:List Int) (hcs:2 * cs.length + 1≤1) (i:Int) (w0 res:W) (hm:m237 F sc step (c :: cs) i w0 = some res) {l:Nat} {T:W→List ABlk} (hy:YOk Tryz.prog l (AV.int .i64) T step 3 (fun _=>false)) (hl:3≤l)
  (t:Nat) (hT0:∀ w,(T w).length = t) (hT:∀ S,(∀ b,3≤b→S b = false)→∀ w,∀ b ∈ T w,avoidB S b) (J:List ABlk) (hJ:AllD J) :
  ∃ own2 K2,own2.length = 3∧AllD K2∧ACall Tryz.prog 237 [.yield l,.rptr (.vw 1 ((c :: cs).map (AV.int .i64))),.rptr (.int .i64 i),.rptr sc.av] ([.resv,.resv,.resv] ++ (T w0 ++ J)) (.ret (.tup [])) (own2 ++ (T res ++ (J ++ K2))):=by
 simp only [m237] at hm
 obtain ⟨first,hfirst,hm⟩:=bindE hm
 obtain ⟨o,ho,hm⟩:=bindE hm
 suffices hx:∃ K,AllD K∧ACall Tryz.prog 237 [.yield l,.rptr (.vw 1 ((c :: cs).map (AV.int .i64))),.rptr (.int .i64 i),.rptr sc.av] ([.resv,.resv,.resv] ++ (T w0 ++ J)) (.ret (.tup [])) ([.resv,.row 0 1 [.yield l],.resv] ++ (T res ++ (J ++ K))) by
  obtain ⟨K2,hK2,hc⟩:=hx
  exact ⟨[.resv,.row 0 1 [.yield l],.resv],K2,rfl,hK2,hc⟩
 refine ACall.doneM Tryz.func237 rfl rfl (nlst rfl) ?_
 show SX _ _ _ 48 _ _ _ _
 refine SX.seq (SX.region (SOps.fill (v:=_) 1 rfl rfl rfl rdNone (SOps.nil rdNone ?_)))
 refine SX.seq (SX.seq ?_)
 refine SX.rn 1 rfl (SOps.light rfl rfl (lightV_len (f:=(AV.int .i64)) (xs:=c :: cs) rfl rfl Tryz.underlying28 rfl) rdNone (SOps.light (v:=.bool (((c :: cs).length:Int) == 0)) rfl rfl rfl rdNone (SOps.nil rdNone ?_)))
 refine SX.cond (t:=(((c :: cs).length:Int) == 0)) rfl rfl (fun ht=>?_) (fun ht=>?_)
 ·rw [eq0_cons] at ht; cases ht
 refine SX.sk (SX.seq (SX.draw follows_mixed rfl rdNone (PO.rn 2 rfl (PO.light rfl rfl (lightV_idx (f:=(AV.int .i64)) (xs:=c :: cs) rfl rfl Tryz.underlying28 rfl rfl) (PO.rn 1 rfl (PO.call rfl rfl rfl rfl rfl (c238 F sc c first hfirst _) (PO.re rfl (SX.seq (SX.rr rfl ?_)))))))))
 refine SX.forget (al':=[(1,.rptr (.vw 1 ((c :: cs).map (AV.int .i64)))),(2,.rptr (.int .i64 i)),(3,.rptr sc.av),(4,.ptr 1 0 0 0),(5,.int .i64 first),(6,.int .i64 first)]) (leA_of rfl) ?_
 refine SX.iterD (G:=GM (3 + t + J.length)) (fun (s:Int×W) _=>[(1,.rptr (.vw 1 ((c :: cs).map (AV.int .i64)))),(2,.rptr (.int .i64 i)),(3,.rptr sc.av),(4,.ptr 1 0 0 0),(5,.int .i64 first),(6,.int .i64 s.1)]) (fun g=>g.1.2) (fun (s:Int×W) g=>[.resv,.row 0 1 [.yield l],.resv] ++ (T s.2 ++ (J ++ g.1.1)))
  (fun (_:W) _=>[]) (fun (w:W) g=>[.resv,.row 0 1 [.yield l],.resv] ++ (T w ++ (J ++ g.1.1))) SK3 ⟨([],[]),trivial,trivial⟩ ho rfl rfl (by rw [List.append_nil]; rfl) ?_ ?_ ?_
 ·intro s g n hn hlt
  rcases SK3_eq hn with rfl | rfl <;> rfl
 ·rintro ⟨a0,w⟩ ⟨⟨gJ,D⟩,hgJ,hD⟩ ot hb
  refine SX.seq (SX.seq ?_)
  refine SX.draw follows_mixed rfl rdNone (PO.rn 5 rfl (PO.light rfl rfl (lightV_idx (f:=(AV.int .i64)) (xs:=c :: cs) rfl rfl Tryz.underlying28 rfl rfl) (PO.rn 1 rfl ?_)))
  obtain ⟨n,hn,hb⟩:=bindE hb
  refine PO.light rfl rfl (lightV_idx (f:=(AV.int .i64)) (xs:=sc.atoms) rfl rfl Tryz.underlying28 rfl hn) (PO.re rfl ?_)
  refine SX.condM rfl rfl hb (fun ht hb=>?_) (fun ht hb=>?_)
  ·refine SX.sk (SX.seq (SX.block (SX.seq ?_)))
   obtain ⟨tot,htot,hb⟩:=bindE hb
   obtain ⟨w',hw',hb⟩:=bindE hb
   refine SX.draw follows_mixed rfl rdNone (PO.rn 3 rfl (PO.call rfl rfl rfl rfl rfl (c112 F sc tot htot _) (PO.rn 4 rfl (PO.light rfl rfl (lightV_slcL (f:=(AV.int .i64)) (xs:=c :: cs) rfl rfl Tryz.underlying28 rfl (slc_tail c cs)) (PO.call rfl rfl rfl rfl rfl (c178 sc (w64 (w64 (i * tot) + a0)) cs _) (PO.nil (SX.block (SX.forget (al':=[(1,.rptr (.vw 1 ((c :: cs).map (AV.int .i64)))),(2,.rptr (.int .i64 i)),(3,.rptr sc.av),(4,.ptr 1 0 0 0),(5,.int .i64 first),(6,.int .i64 a0),(42,.func (.func 237) [] [.rptr (.vw 1 (cs.map (AV.int .i64))),.rptr (.int .i64 (w64 (w64 (i * tot) + a0))),.rptr sc.av])]) (leA_of rfl) ?_))))))))
   refine SX.rangeN (A:=[.resv]) (t4:=.row 0 1 [.yield l]) (Tw2:=T w') (J:=J ++ gJ) (v:=.tup []) 2 (3 + t + J.length + gJ.length) rfl rfl rfl rfl (by rw [hT0]; simp; omega) ?_ (fun own2 K2 hown2 hK2=>?_)
   ·refine c237k1 F sc step cs hcs (w64 (w64 (i * tot) + a0)) w w' hw' (l:=2) (T:=fun w=>.row 0 1 [.yield l] :: .loop .ready none (lst 48 [(1,.rptr (.vw 1 ((c :: cs).map (AV.int .i64)))),(2,.rptr (.int .i64 i)),(3,.rptr sc.av),(4,.ptr 1 0 0 0),(5,.int .i64 first),(6,.int .i64 a0),(42,.func (.func 237) [] [.rptr (.vw 1 (cs.map (AV.int .i64))),.rptr (.int .i64 (w64 (w64 (i * tot) + a0))),.rptr sc.av])]) #[43] _ _ :: T w) ?_ (by omega) (t + 2) (fun w=>by simp [hT0]) ?_ (J ++ gJ ++ [ABlk.defr]) ((hJ.append hgJ).append ⟨.inl rfl,trivial⟩)
    ·refine ⟨fun u tv u' hst own J rd o ρ df cl g hown hav hJ hd ho hc hg ha=>?_⟩
     obtain ⟨x0,rfl⟩:=len1 hown
     refine AStep.yield ho hc hg ?_
     rw [ha]
     refine ARound.of_SX (l:=2) (N:=48) (t:=43) (al:=[(1,.rptr (.vw 1 ((c :: cs).map (AV.int .i64)))),(2,.rptr (.int .i64 i)),(3,.rptr sc.av),(4,.ptr 1 0 0 0),(5,.int .i64 first),(6,.int .i64 a0),(42,.func (.func 237) [] [.rptr (.vw 1 (cs.map (AV.int .i64))),.rptr (.int .i64 (w64 (w64 (i * tot) + a0))),.rptr sc.av])]) (al1:=[(4,.ptr 1 0 0 0),(7,.int .i64 tv)])
      (h1:=[x0,.row 0 1 [.yield l],.loop .ready none (lst 48 [(1,.rptr (.vw 1 ((c :: cs).map (AV.int .i64)))),(2,.rptr (.int .i64 i)),(3,.rptr sc.av),(4,.ptr 1 0 0 0),(5,.int .i64 first),(6,.int .i64 a0),(42,.func (.func 237) [] [.rptr (.vw 1 (cs.map (AV.int .i64))),.rptr (.int .i64 (w64 (w64 (i * tot) + a0))),.rptr sc.av])]) #[43] _ _] ++ (T u ++ J)) (h2:=[x0,.row 0 1 [.yield l],.loop .busy none (lst 48 [(1,.rptr (.vw 1 ((c :: cs).map (AV.int .i64)))),(2,.rptr (.int .i64 i)),(3,.rptr sc.av),(4,.ptr 1 0 0 0),(5,.int .i64 first),(6,.int .i64 a0),(42,.func (.func 237) [] [.rptr (.vw 1 (cs.map (AV.int .i64))),.rptr (.int .i64 (w64 (w64 (i * tot) + a0))),.rptr sc.av])]) #[43] _ _] ++ (T u' ++ J)) (by decide) rfl ?_ rfl ?_ rfl
     ·refine SX.region (SOps.light (v:=_) rfl rfl rfl (rdS rfl) ?_)
      refine SOps.nil (rdS rfl) ⟨rfl,rfl,.cons rfl (.cons rfl .nil),rfl⟩
     ·refine SX.block (SX.seq (SX.region ?_))
      iterate 2 refine SOps.light (v:=_) rfl rfl rfl (rdS rfl) ?_
      refine SOps.yieldR (own:=[x0,.row 0 1 [.yield l],.loop .busy none (lst 48 [(1,.rptr (.vw 1 ((c :: cs).map (AV.int .i64)))),(2,.rptr (.int .i64 i)),(3,.rptr sc.av),(4,.ptr 1 0 0 0),(5,.int .i64 first),(6,.int .i64 a0),(42,.func (.func 237) [] [.rptr (.vw 1 (cs.map (AV.int .i64))),.rptr (.int .i64 (w64 (w64 (i * tot) + a0))),.rptr sc.av])]) #[43] _ _]) (v:=tv) hy rfl rfl rfl rfl rfl rfl rfl (fun _ _=>avoid_noneB _) hJ trivial hst (rdS rfl) (SOps.light (v:=_) rfl rfl rfl (rdS rfl) (SOps.nil (rdS rfl) ?_))
      refine SX.cond (t:=false) rfl rfl (fun ht=>by cases ht) (fun ht=>?_)
      refine SX.skip (rdS rfl) ⟨rfl,rfl,rfl⟩
    ·intro S hS w b hb
     rcases List.mem_cons.1 hb with rfl | hb
     ·exact ⟨hS l (by omega),trivial⟩
     ·rcases List.mem_cons.1 hb with rfl | hb
      ·exact avoid_lst (al:=[(1,.rptr (.vw 1 ((c :: cs).map (AV.int .i64)))),(2,.rptr (.int .i64 i)),(3,.rptr sc.av),(4,.ptr 1 0 0 0),(5,.int .i64 first),(6,.int .i64 a0),(42,.func (.func 237) [] [.rptr (.vw 1 (cs.map (AV.int .i64))),.rptr (.int .i64 (w64 (w64 (i * tot) + a0))),.rptr sc.av])]) ⟨avoid_ints,trivial,Scope.avoid _ _,hS 1 (by omega),trivial,trivial,⟨trivial,avoid_ints,trivial,Scope.avoid _ _,trivial⟩,trivial⟩
      ·exact hT S (fun b hb=>hS b (by omega)) w b hb
   ·refine SX.rr rfl ?_
    refine eI _ (eI ⟨(gJ ++ ([ABlk.defr] ++ K2),_),hgJ.append (AllD.append (show AllD [ABlk.defr] from ⟨.inl rfl,trivial⟩) hK2),Mk.pushK hD hK2 (b:=3 + t + J.length + gJ.length) rfl⟩ (aI (ojs hb) ⟨rfl,.cons rfl (leA_of rfl),.inr ⟨?_,?_,?_⟩⟩))
    ·have key:∀ lx:ABlk,Unfilled SK3 (own2 ++ ([.row 0 1 [.yield l],lx] ++ (T w' ++ (J ++ gJ ++ [ABlk.defr] ++ K2)))) ([.resv,.row 0 1 [.yield l],.resv] ++ (T w' ++ (J ++ gJ ++ [ABlk.defr] ++ K2))):=fun lx=>by
      have:=Unfilled.own (S:=SK3) (A:=own2) (B:=[.row 0 1 [.yield l],lx]) (Tw:=T w') (J:=J ++ gJ ++ [ABlk.defr] ++ K2) (fun i hi=>?_) (fun b hb=>?_) ?_ (hT SK3 SK3_big w') (((hJ.append hgJ).append (show AllD [ABlk.defr] from ⟨.inl rfl,trivial⟩)).append hK2)
      ·rw [hown2] at this
       exact this
      ·rw [hown2] at hi
       have:i < 1:=hi
       have:i = 0:=by omega
       subst this; rfl
      ·rw [hown2] at hb
       exact SK3_big b hb
      ·rw [hown2]
       exact ⟨⟨SK3_big l hl,trivial⟩,trivial,trivial⟩
     have e:J ++ (gJ ++ ([ABlk.defr] ++ K2)) = J ++ gJ ++ [ABlk.defr] ++ K2:=by simp
     show Unfilled SK3 _ ([.resv,.row 0 1 [.yield l],.resv] ++ (T w' ++ (J ++ (gJ ++ ([ABlk.defr] ++ K2)))))
     rw [e]
     exact key _
    ·exact ⟨avoid_ints,trivial,Scope.avoid _ _,rfl,trivial,trivial,trivial⟩
    ·exact Mk.avoid (fun n hn=>SK3_big n (by omega)) (Mk.pushK hD hK2 rfl)
  ·refine SX.ex ?_
   exact aI rfl (eI _ (eI ⟨(gJ,D),hgJ,hD⟩ (aI (ojs hb) ⟨rfl,.nil,.inl rfl⟩)))
 ·rintro w ⟨⟨gJ,D⟩,hgJ,hD⟩ he
  subst he
  obtain rfl:=oj hm
  exact ⟨.inl rfl,gJ,rfl,by rw [hT0]; exact hD⟩
theorem c237k3 {W:Type} (F:Nat) (sc:Scope) (step:W→Int→Option W):∀ (cols:List Int) (hcs:2 * cols.length + 1≤3) (i:Int) (w0 res:W) (hm:m237 F sc step cols i w0 = some res) {l:Nat} {T:W→List ABlk} (hy:YOk Tryz.prog l (AV.int .i64) T step 3 (fun _=>false)) (hl:3≤l)
  (t:Nat) (hT0:∀ w,(T w).length = t) (hT:∀ S,(∀ b,3≤b→S b = false)→∀ w,∀ b ∈ T w,avoidB S b) (J:List ABlk) (hJ:AllD J),
  ∃ own2 K2,own2.length = 3∧AllD K2∧ACall Tryz.prog 237 [.yield l,.rptr (.vw 1 (cols.map (AV.int .i64))),.rptr (.int .i64 i),.rptr sc.av] ([.resv,.resv,.resv] ++ (T w0 ++ J)) (.ret (.tup [])) (own2 ++ (T res ++ (J ++ K2)))
 | [],hcs,i,w0,res,hm,l,T,hy,hl,t,hT0,hT,J,hJ=>c237b3 F sc step i w0 res hm hy J hJ
 | c :: cs,hcs,i,w0,res,hm,l,T,hy,hl,t,hT0,hT,J,hJ=>c237n3 F sc step c cs (by simp at hcs; omega) i w0 res hm hy hl t hT0 hT J hJ
def SK5 (b:Nat):Bool:=Nat.blt b 3 || Nat.beq b 4
theorem SK5_big (b:Nat) (h:5≤b):SK5 b = false:=by
 have h1:Nat.blt b 3 = false:=by
  cases hb:Nat.blt b 3 with
  | false=>rfl
  | true=>have:=Nat.le_of_ble_eq_true hb; omega
 have h2:Nat.beq b 4 = false:=by
  cases hb:Nat.beq b 4 with
  | false=>rfl
  | true=>have:=Nat.eq_of_beq_eq_true hb; omega
 simp [SK5,h1,h2]
theorem SK5_eq {n:Nat} (h:SK5 n = true):n = 0 ∨ n = 1 ∨ n = 2 ∨ n = 4:=by
 simp only [SK5,Bool.or_eq_true] at h
 rcases h with h | h
 ·have:=Nat.le_of_ble_eq_true h; omega
 ·have:=Nat.eq_of_beq_eq_true h; omega
theorem c237n5 {W:Type} (F:Nat) (sc:Scope) (step:W→Int→Option W) (c:Int) (cs:List Int) (hcs:2 * cs.length + 1≤3) (i:Int) (w0 res:W) (hm:m237 F sc step (c :: cs) i w0 = some res) {l:Nat} {T:W→List ABlk} (hy:YOk Tryz.prog l (AV.int .i64) T step 5 (fun _=>false)) (hl:5≤l)
  (t:Nat) (hT0:∀ w,(T w).length = t) (hT:∀ S,(∀ b,5≤b→S b = false)→∀ w,∀ b ∈ T w,avoidB S b) (J:List ABlk) (hJ:AllD J) :
  ∃ own2 K2,own2.length = 5∧AllD K2∧ACall Tryz.prog 237 [.yield l,.rptr (.vw 1 ((c :: cs).map (AV.int .i64))),.rptr (.int .i64 i),.rptr sc.av] ([.resv,.resv,.resv,.resv,.resv] ++ (T w0 ++ J)) (.ret (.tup [])) (own2 ++ (T res ++ (J ++ K2))):=by
 simp only [m237] at hm
 obtain ⟨first,hfirst,hm⟩:=bindE hm
 obtain ⟨o,ho,hm⟩:=bindE hm
 suffices hx:∃ K,AllD K∧ACall Tryz.prog 237 [.yield l,.rptr (.vw 1 ((c :: cs).map (AV.int .i64))),.rptr (.int .i64 i),.rptr sc.av] ([.resv,.resv,.resv,.resv,.resv] ++ (T w0 ++ J)) (.ret (.tup [])) ([.resv,.resv,.resv,.row 0 1 [.yield l],.resv] ++ (T res ++ (J ++ K))) by
  obtain ⟨K2,hK2,hc⟩:=hx
  exact ⟨[.resv,.resv,.resv,.row 0 1 [.yield l],.resv],K2,rfl,hK2,hc⟩
 refine ACall.doneM Tryz.func237 rfl rfl (nlst rfl) ?_
 show SX _ _ _ 48 _ _ _ _
 refine SX.seq (SX.region (SOps.fill (v:=_) 3 rfl rfl rfl rdNone (SOps.nil rdNone ?_)))
 refine SX.seq (SX.seq ?_)
 refine SX.rn 1 rfl (SOps.light rfl rfl (lightV_len (f:=(AV.int .i64)) (xs:=c :: cs) rfl rfl Tryz.underlying28 rfl) rdNone (SOps.light (v:=.bool (((c :: cs).length:Int) == 0)) rfl rfl rfl rdNone (SOps.nil rdNone ?_)))
 refine SX.cond (t:=(((c :: cs).length:Int) == 0)) rfl rfl (fun ht=>?_) (fun ht=>?_)
 ·rw [eq0_cons] at ht; cases ht
 refine SX.sk (SX.seq (SX.draw follows_mixed rfl rdNone (PO.rn 2 rfl (PO.light rfl rfl (lightV_idx (f:=(AV.int .i64)) (xs:=c :: cs) rfl rfl Tryz.underlying28 rfl rfl) (PO.rn 1 rfl (PO.call rfl rfl rfl rfl rfl (c238 F sc c first hfirst _) (PO.re rfl (SX.seq (SX.rr rfl ?_)))))))))
 refine SX.forget (al':=[(1,.rptr (.vw 1 ((c :: cs).map (AV.int .i64)))),(2,.rptr (.int .i64 i)),(3,.rptr sc.av),(4,.ptr 3 0 0 0),(5,.int .i64 first),(6,.int .i64 first)]) (leA_of rfl) ?_
 refine SX.iterD (G:=GM (5 + t + J.length)) (fun (s:Int×W) _=>[(1,.rptr (.vw 1 ((c :: cs).map (AV.int .i64)))),(2,.rptr (.int .i64 i)),(3,.rptr sc.av),(4,.ptr 3 0 0 0),(5,.int .i64 first),(6,.int .i64 s.1)]) (fun g=>g.1.2) (fun (s:Int×W) g=>[.resv,.resv,.resv,.row 0 1 [.yield l],.resv] ++ (T s.2 ++ (J ++ g.1.1)))
  (fun (_:W) _=>[]) (fun (w:W) g=>[.resv,.resv,.resv,.row 0 1 [.yield l],.resv] ++ (T w ++ (J ++ g.1.1))) SK5 ⟨([],[]),trivial,trivial⟩ ho rfl rfl (by rw [List.append_nil]; rfl) ?_ ?_ ?_
 ·intro s g n hn hlt
  rcases SK5_eq hn with rfl | rfl | rfl | rfl <;> rfl
 ·rintro ⟨a0,w⟩ ⟨⟨gJ,D⟩,hgJ,hD⟩ ot hb
  refine SX.seq (SX.seq ?_)
  refine SX.draw follows_mixed rfl rdNone (PO.rn 5 rfl (PO.light rfl rfl (lightV_idx (f:=(AV.int .i64)) (xs:=c :: cs) rfl rfl Tryz.underlying28 rfl rfl) (PO.rn 1 rfl ?_)))
  obtain ⟨n,hn,hb⟩:=bindE hb
  refine PO.light rfl rfl (lightV_idx (f:=(AV.int .i64)) (xs:=sc.atoms) rfl rfl Tryz.underlying28 rfl hn) (PO.re rfl ?_)
  refine SX.condM rfl rfl hb (fun ht hb=>?_) (fun ht hb=>?_)
  ·refine SX.sk (SX.seq (SX.block (SX.seq ?_)))
   obtain ⟨tot,htot,hb⟩:=bindE hb
   obtain ⟨w',hw',hb⟩:=bindE hb
   refine SX.draw follows_mixed rfl rdNone (PO.rn 3 rfl (PO.call rfl rfl rfl rfl rfl (c112 F sc tot htot _) (PO.rn 4 rfl (PO.light rfl rfl (lightV_slcL (f:=(AV.int .i64)) (xs:=c :: cs) rfl rfl Tryz.underlying28 rfl (slc_tail c cs)) (PO.call rfl rfl rfl rfl rfl (c178 sc (w64 (w64 (i * tot) + a0)) cs _) (PO.nil (SX.block (SX.forget (al':=[(1,.rptr (.vw 1 ((c :: cs).map (AV.int .i64)))),(2,.rptr (.int .i64 i)),(3,.rptr sc.av),(4,.ptr 3 0 0 0),(5,.int .i64 first),(6,.int .i64 a0),(42,.func (.func 237) [] [.rptr (.vw 1 (cs.map (AV.int .i64))),.rptr (.int .i64 (w64 (w64 (i * tot) + a0))),.rptr sc.av])]) (leA_of rfl) ?_))))))))
   refine SX.rangeN (A:=[.resv,.resv,.resv]) (t4:=.row 0 1 [.yield l]) (Tw2:=T w') (J:=J ++ gJ) (v:=.tup []) 4 (5 + t + J.length + gJ.length) rfl rfl rfl rfl (by rw [hT0]; simp; omega) ?_ (fun own2 K2 hown2 hK2=>?_)
   ·refine c237k3 F sc step cs hcs (w64 (w64 (i * tot) + a0)) w w' hw' (l:=4) (T:=fun w=>.row 0 1 [.yield l] :: .loop .ready none (lst 48 [(1,.rptr (.vw 1 ((c :: cs).map (AV.int .i64)))),(2,.rptr (.int .i64 i)),(3,.rptr sc.av),(4,.ptr 3 0 0 0),(5,.int .i64 first),(6,.int .i64 a0),(42,.func (.func 237) [] [.rptr (.vw 1 (cs.map (AV.int .i64))),.rptr (.int .i64 (w64 (w64 (i * tot) + a0))),.rptr sc.av])]) #[43] _ _ :: T w) ?_ (by omega) (t + 2) (fun w=>by simp [hT0]) ?_ (J ++ gJ ++ [ABlk.defr]) ((hJ.append hgJ).append ⟨.inl rfl,trivial⟩)
    ·refine ⟨fun u tv u' hst own J rd o ρ df cl g hown hav hJ hd ho hc hg ha=>?_⟩
     obtain ⟨x0,x1,x2,rfl⟩:=len3 hown
     refine AStep.yield ho hc hg ?_
     rw [ha]
     refine ARound.of_SX (l:=4) (N:=48) (t:=43) (al:=[(1,.rptr (.vw 1 ((c :: cs).map (AV.int .i64)))),(2,.rptr (.int .i64 i)),(3,.rptr sc.av),(4,.ptr 3 0 0 0),(5,.int .i64 first),(6,.int .i64 a0),(42,.func (.func 237) [] [.rptr (.vw 1 (cs.map (AV.int .i64))),.rptr (.int .i64 (w64 (w64 (i * tot) + a0))),.rptr sc.av])]) (al1:=[(4,.ptr 3 0 0 0),(7,.int .i64 tv)])
      (h1:=[x0,x1,x2,.row 0 1 [.yield l],.loop .ready none (lst 48 [(1,.rptr (.vw 1 ((c :: cs).map (AV.int .i64)))),(2,.rptr (.int .i64 i)),(3,.rptr sc.av),(4,.ptr 3 0 0 0),(5,.int .i64 first),(6,.int .i64 a0),(42,.func (.func 237) [] [.rptr (.vw 1 (cs.map (AV.int .i64))),.rptr (.int .i64 (w64 (w64 (i * tot) + a0))),.rptr sc.av])]) #[43] _ _] ++ (T u ++ J)) (h2:=[x0,x1,x2,.row 0 1 [.yield l],.loop .busy none (lst 48 [(1,.rptr (.vw 1 ((c :: cs).map (AV.int .i64)))),(2,.rptr (.int .i64 i)),(3,.rptr sc.av),(4,.ptr 3 0 0 0),(5,.int .i64 first),(6,.int .i64 a0),(42,.func (.func 237) [] [.rptr (.vw 1 (cs.map (AV.int .i64))),.rptr (.int .i64 (w64 (w64 (i * tot) + a0))),.rptr sc.av])]) #[43] _ _] ++ (T u' ++ J)) (by decide) rfl ?_ rfl ?_ rfl
     ·refine SX.region (SOps.light (v:=_) rfl rfl rfl (rdS rfl) ?_)
      refine SOps.nil (rdS rfl) ⟨rfl,rfl,.cons rfl (.cons rfl .nil),rfl⟩
     ·refine SX.block (SX.seq (SX.region ?_))
      iterate 2 refine SOps.light (v:=_) rfl rfl rfl (rdS rfl) ?_
      refine SOps.yieldR (own:=[x0,x1,x2,.row 0 1 [.yield l],.loop .busy none (lst 48 [(1,.rptr (.vw 1 ((c :: cs).map (AV.int .i64)))),(2,.rptr (.int .i64 i)),(3,.rptr sc.av),(4,.ptr 3 0 0 0),(5,.int .i64 first),(6,.int .i64 a0),(42,.func (.func 237) [] [.rptr (.vw 1 (cs.map (AV.int .i64))),.rptr (.int .i64 (w64 (w64 (i * tot) + a0))),.rptr sc.av])]) #[43] _ _]) (v:=tv) hy rfl rfl rfl rfl rfl rfl rfl (fun _ _=>avoid_noneB _) hJ trivial hst (rdS rfl) (SOps.light (v:=_) rfl rfl rfl (rdS rfl) (SOps.nil (rdS rfl) ?_))
      refine SX.cond (t:=false) rfl rfl (fun ht=>by cases ht) (fun ht=>?_)
      refine SX.skip (rdS rfl) ⟨rfl,rfl,rfl⟩
    ·intro S hS w b hb
     rcases List.mem_cons.1 hb with rfl | hb
     ·exact ⟨hS l (by omega),trivial⟩
     ·rcases List.mem_cons.1 hb with rfl | hb
      ·exact avoid_lst (al:=[(1,.rptr (.vw 1 ((c :: cs).map (AV.int .i64)))),(2,.rptr (.int .i64 i)),(3,.rptr sc.av),(4,.ptr 3 0 0 0),(5,.int .i64 first),(6,.int .i64 a0),(42,.func (.func 237) [] [.rptr (.vw 1 (cs.map (AV.int .i64))),.rptr (.int .i64 (w64 (w64 (i * tot) + a0))),.rptr sc.av])]) ⟨avoid_ints,trivial,Scope.avoid _ _,hS 3 (by omega),trivial,trivial,⟨trivial,avoid_ints,trivial,Scope.avoid _ _,trivial⟩,trivial⟩
      ·exact hT S (fun b hb=>hS b (by omega)) w b hb
   ·refine SX.rr rfl ?_
    refine eI _ (eI ⟨(gJ ++ ([ABlk.defr] ++ K2),_),hgJ.append (AllD.append (show AllD [ABlk.defr] from ⟨.inl rfl,trivial⟩) hK2),Mk.pushK hD hK2 (b:=5 + t + J.length + gJ.length) rfl⟩ (aI (ojs hb) ⟨rfl,.cons rfl (leA_of rfl),.inr ⟨?_,?_,?_⟩⟩))
    ·have key:∀ lx:ABlk,Unfilled SK5 (own2 ++ ([.row 0 1 [.yield l],lx] ++ (T w' ++ (J ++ gJ ++ [ABlk.defr] ++ K2)))) ([.resv,.resv,.resv,.row 0 1 [.yield l],.resv] ++ (T w' ++ (J ++ gJ ++ [ABlk.defr] ++ K2))):=fun lx=>by
      have:=Unfilled.own (S:=SK5) (A:=own2) (B:=[.row 0 1 [.yield l],lx]) (Tw:=T w') (J:=J ++ gJ ++ [ABlk.defr] ++ K2) (fun i hi=>?_) (fun b hb=>?_) ?_ (hT SK5 SK5_big w') (((hJ.append hgJ).append (show AllD [ABlk.defr] from ⟨.inl rfl,trivial⟩)).append hK2)
      ·rw [hown2] at this
       exact this
      ·rw [hown2] at hi
       have:i < 3:=hi
       have:i = 0 ∨ i = 1 ∨ i = 2:=by omega
       rcases this with rfl | rfl | rfl <;> rfl
      ·rw [hown2] at hb
       exact SK5_big b hb
      ·rw [hown2]
       exact ⟨⟨SK5_big l hl,trivial⟩,trivial,trivial⟩
     have e:J ++ (gJ ++ ([ABlk.defr] ++ K2)) = J ++ gJ ++ [ABlk.defr] ++ K2:=by simp
     show Unfilled SK5 _ ([.resv,.resv,.resv,.row 0 1 [.yield l],.resv] ++ (T w' ++ (J ++ (gJ ++ ([ABlk.defr] ++ K2)))))
     rw [e]
     exact key _
    ·exact ⟨avoid_ints,trivial,Scope.avoid _ _,rfl,trivial,trivial,trivial⟩
    ·exact Mk.avoid (fun n hn=>SK5_big n (by omega)) (Mk.pushK hD hK2 rfl)
  ·refine SX.ex ?_
   exact aI rfl (eI _ (eI ⟨(gJ,D),hgJ,hD⟩ (aI (ojs hb) ⟨rfl,.nil,.inl rfl⟩)))
 ·rintro w ⟨⟨gJ,D⟩,hgJ,hD⟩ he
  subst he
  obtain rfl:=oj hm
  exact ⟨.inl rfl,gJ,rfl,by rw [hT0]; exact hD⟩
theorem c237k5 {W:Type} (F:Nat) (sc:Scope) (step:W→Int→Option W):∀ (cols:List Int) (hcs:2 * cols.length + 1≤5) (i:Int) (w0 res:W) (hm:m237 F sc step cols i w0 = some res) {l:Nat} {T:W→List ABlk} (hy:YOk Tryz.prog l (AV.int .i64) T step 5 (fun _=>false)) (hl:5≤l)
  (t:Nat) (hT0:∀ w,(T w).length = t) (hT:∀ S,(∀ b,5≤b→S b = false)→∀ w,∀ b ∈ T w,avoidB S b) (J:List ABlk) (hJ:AllD J),
  ∃ own2 K2,own2.length = 5∧AllD K2∧ACall Tryz.prog 237 [.yield l,.rptr (.vw 1 (cols.map (AV.int .i64))),.rptr (.int .i64 i),.rptr sc.av] ([.resv,.resv,.resv,.resv,.resv] ++ (T w0 ++ J)) (.ret (.tup [])) (own2 ++ (T res ++ (J ++ K2)))
 | [],hcs,i,w0,res,hm,l,T,hy,hl,t,hT0,hT,J,hJ=>c237b5 F sc step i w0 res hm hy J hJ
 | c :: cs,hcs,i,w0,res,hm,l,T,hy,hl,t,hT0,hT,J,hJ=>c237n5 F sc step c cs (by simp at hcs; omega) i w0 res hm hy hl t hT0 hT J hJ
def SK7 (b:Nat):Bool:=Nat.blt b 5 || Nat.beq b 6
theorem SK7_big (b:Nat) (h:7≤b):SK7 b = false:=by
 have h1:Nat.blt b 5 = false:=by
  cases hb:Nat.blt b 5 with
  | false=>rfl
  | true=>have:=Nat.le_of_ble_eq_true hb; omega
 have h2:Nat.beq b 6 = false:=by
  cases hb:Nat.beq b 6 with
  | false=>rfl
  | true=>have:=Nat.eq_of_beq_eq_true hb; omega
 simp [SK7,h1,h2]
theorem SK7_eq {n:Nat} (h:SK7 n = true):n = 0 ∨ n = 1 ∨ n = 2 ∨ n = 3 ∨ n = 4 ∨ n = 6:=by
 simp only [SK7,Bool.or_eq_true] at h
 rcases h with h | h
 ·have:=Nat.le_of_ble_eq_true h; omega
 ·have:=Nat.eq_of_beq_eq_true h; omega
theorem c237n7 {W:Type} (F:Nat) (sc:Scope) (step:W→Int→Option W) (c:Int) (cs:List Int) (hcs:2 * cs.length + 1≤5) (i:Int) (w0 res:W) (hm:m237 F sc step (c :: cs) i w0 = some res) {l:Nat} {T:W→List ABlk} (hy:YOk Tryz.prog l (AV.int .i64) T step 7 (fun _=>false)) (hl:7≤l)
  (t:Nat) (hT0:∀ w,(T w).length = t) (hT:∀ S,(∀ b,7≤b→S b = false)→∀ w,∀ b ∈ T w,avoidB S b) (J:List ABlk) (hJ:AllD J) :
  ∃ own2 K2,own2.length = 7∧AllD K2∧ACall Tryz.prog 237 [.yield l,.rptr (.vw 1 ((c :: cs).map (AV.int .i64))),.rptr (.int .i64 i),.rptr sc.av] ([.resv,.resv,.resv,.resv,.resv,.resv,.resv] ++ (T w0 ++ J)) (.ret (.tup [])) (own2 ++ (T res ++ (J ++ K2))):=by
 simp only [m237] at hm
 obtain ⟨first,hfirst,hm⟩:=bindE hm
 obtain ⟨o,ho,hm⟩:=bindE hm
 suffices hx:∃ K,AllD K∧ACall Tryz.prog 237 [.yield l,.rptr (.vw 1 ((c :: cs).map (AV.int .i64))),.rptr (.int .i64 i),.rptr sc.av] ([.resv,.resv,.resv,.resv,.resv,.resv,.resv] ++ (T w0 ++ J)) (.ret (.tup [])) ([.resv,.resv,.resv,.resv,.resv,.row 0 1 [.yield l],.resv] ++ (T res ++ (J ++ K))) by
  obtain ⟨K2,hK2,hc⟩:=hx
  exact ⟨[.resv,.resv,.resv,.resv,.resv,.row 0 1 [.yield l],.resv],K2,rfl,hK2,hc⟩
 refine ACall.doneM Tryz.func237 rfl rfl (nlst rfl) ?_
 show SX _ _ _ 48 _ _ _ _
 refine SX.seq (SX.region (SOps.fill (v:=_) 5 rfl rfl rfl rdNone (SOps.nil rdNone ?_)))
 refine SX.seq (SX.seq ?_)
 refine SX.rn 1 rfl (SOps.light rfl rfl (lightV_len (f:=(AV.int .i64)) (xs:=c :: cs) rfl rfl Tryz.underlying28 rfl) rdNone (SOps.light (v:=.bool (((c :: cs).length:Int) == 0)) rfl rfl rfl rdNone (SOps.nil rdNone ?_)))
 refine SX.cond (t:=(((c :: cs).length:Int) == 0)) rfl rfl (fun ht=>?_) (fun ht=>?_)
 ·rw [eq0_cons] at ht; cases ht
 refine SX.sk (SX.seq (SX.draw follows_mixed rfl rdNone (PO.rn 2 rfl (PO.light rfl rfl (lightV_idx (f:=(AV.int .i64)) (xs:=c :: cs) rfl rfl Tryz.underlying28 rfl rfl) (PO.rn 1 rfl (PO.call rfl rfl rfl rfl rfl (c238 F sc c first hfirst _) (PO.re rfl (SX.seq (SX.rr rfl ?_)))))))))
 refine SX.forget (al':=[(1,.rptr (.vw 1 ((c :: cs).map (AV.int .i64)))),(2,.rptr (.int .i64 i)),(3,.rptr sc.av),(4,.ptr 5 0 0 0),(5,.int .i64 first),(6,.int .i64 first)]) (leA_of rfl) ?_
 refine SX.iterD (G:=GM (7 + t + J.length)) (fun (s:Int×W) _=>[(1,.rptr (.vw 1 ((c :: cs).map (AV.int .i64)))),(2,.rptr (.int .i64 i)),(3,.rptr sc.av),(4,.ptr 5 0 0 0),(5,.int .i64 first),(6,.int .i64 s.1)]) (fun g=>g.1.2) (fun (s:Int×W) g=>[.resv,.resv,.resv,.resv,.resv,.row 0 1 [.yield l],.resv] ++ (T s.2 ++ (J ++ g.1.1)))
  (fun (_:W) _=>[]) (fun (w:W) g=>[.resv,.resv,.resv,.resv,.resv,.row 0 1 [.yield l],.resv] ++ (T w ++ (J ++ g.1.1))) SK7 ⟨([],[]),trivial,trivial⟩ ho rfl rfl (by rw [List.append_nil]; rfl) ?_ ?_ ?_
 ·intro s g n hn hlt
  rcases SK7_eq hn with rfl | rfl | rfl | rfl | rfl | rfl <;> rfl
 ·rintro ⟨a0,w⟩ ⟨⟨gJ,D⟩,hgJ,hD⟩ ot hb
  refine SX.seq (SX.seq ?_)
  refine SX.draw follows_mixed rfl rdNone (PO.rn 5 rfl (PO.light rfl rfl (lightV_idx (f:=(AV.int .i64)) (xs:=c :: cs) rfl rfl Tryz.underlying28 rfl rfl) (PO.rn 1 rfl ?_)))
  obtain ⟨n,hn,hb⟩:=bindE hb
  refine PO.light rfl rfl (lightV_idx (f:=(AV.int .i64)) (xs:=sc.atoms) rfl rfl Tryz.underlying28 rfl hn) (PO.re rfl ?_)
  refine SX.condM rfl rfl hb (fun ht hb=>?_) (fun ht hb=>?_)
  ·refine SX.sk (SX.seq (SX.block (SX.seq ?_)))
   obtain ⟨tot,htot,hb⟩:=bindE hb
   obtain ⟨w',hw',hb⟩:=bindE hb
   refine SX.draw follows_mixed rfl rdNone (PO.rn 3 rfl (PO.call rfl rfl rfl rfl rfl (c112 F sc tot htot _) (PO.rn 4 rfl (PO.light rfl rfl (lightV_slcL (f:=(AV.int .i64)) (xs:=c :: cs) rfl rfl Tryz.underlying28 rfl (slc_tail c cs)) (PO.call rfl rfl rfl rfl rfl (c178 sc (w64 (w64 (i * tot) + a0)) cs _) (PO.nil (SX.block (SX.forget (al':=[(1,.rptr (.vw 1 ((c :: cs).map (AV.int .i64)))),(2,.rptr (.int .i64 i)),(3,.rptr sc.av),(4,.ptr 5 0 0 0),(5,.int .i64 first),(6,.int .i64 a0),(42,.func (.func 237) [] [.rptr (.vw 1 (cs.map (AV.int .i64))),.rptr (.int .i64 (w64 (w64 (i * tot) + a0))),.rptr sc.av])]) (leA_of rfl) ?_))))))))
   refine SX.rangeN (A:=[.resv,.resv,.resv,.resv,.resv]) (t4:=.row 0 1 [.yield l]) (Tw2:=T w') (J:=J ++ gJ) (v:=.tup []) 6 (7 + t + J.length + gJ.length) rfl rfl rfl rfl (by rw [hT0]; simp; omega) ?_ (fun own2 K2 hown2 hK2=>?_)
   ·refine c237k5 F sc step cs hcs (w64 (w64 (i * tot) + a0)) w w' hw' (l:=6) (T:=fun w=>.row 0 1 [.yield l] :: .loop .ready none (lst 48 [(1,.rptr (.vw 1 ((c :: cs).map (AV.int .i64)))),(2,.rptr (.int .i64 i)),(3,.rptr sc.av),(4,.ptr 5 0 0 0),(5,.int .i64 first),(6,.int .i64 a0),(42,.func (.func 237) [] [.rptr (.vw 1 (cs.map (AV.int .i64))),.rptr (.int .i64 (w64 (w64 (i * tot) + a0))),.rptr sc.av])]) #[43] _ _ :: T w) ?_ (by omega) (t + 2) (fun w=>by simp [hT0]) ?_ (J ++ gJ ++ [ABlk.defr]) ((hJ.append hgJ).append ⟨.inl rfl,trivial⟩)
    ·refine ⟨fun u tv u' hst own J rd o ρ df cl g hown hav hJ hd ho hc hg ha=>?_⟩
     obtain ⟨x0,x1,x2,x3,x4,rfl⟩:=len5 hown
     refine AStep.yield ho hc hg ?_
     rw [ha]
     refine ARound.of_SX (l:=6) (N:=48) (t:=43) (al:=[(1,.rptr (.vw 1 ((c :: cs).map (AV.int .i64)))),(2,.rptr (.int .i64 i)),(3,.rptr sc.av),(4,.ptr 5 0 0 0),(5,.int .i64 first),(6,.int .i64 a0),(42,.func (.func 237) [] [.rptr (.vw 1 (cs.map (AV.int .i64))),.rptr (.int .i64 (w64 (w64 (i * tot) + a0))),.rptr sc.av])]) (al1:=[(4,.ptr 5 0 0 0),(7,.int .i64 tv)])
      (h1:=[x0,x1,x2,x3,x4,.row 0 1 [.yield l],.loop .ready none (lst 48 [(1,.rptr (.vw 1 ((c :: cs).map (AV.int .i64)))),(2,.rptr (.int .i64 i)),(3,.rptr sc.av),(4,.ptr 5 0 0 0),(5,.int .i64 first),(6,.int .i64 a0),(42,.func (.func 237) [] [.rptr (.vw 1 (cs.map (AV.int .i64))),.rptr (.int .i64 (w64 (w64 (i * tot) + a0))),.rptr sc.av])]) #[43] _ _] ++ (T u ++ J)) (h2:=[x0,x1,x2,x3,x4,.row 0 1 [.yield l],.loop .busy none (lst 48 [(1,.rptr (.vw 1 ((c :: cs).map (AV.int .i64)))),(2,.rptr (.int .i64 i)),(3,.rptr sc.av),(4,.ptr 5 0 0 0),(5,.int .i64 first),(6,.int .i64 a0),(42,.func (.func 237) [] [.rptr (.vw 1 (cs.map (AV.int .i64))),.rptr (.int .i64 (w64 (w64 (i * tot) + a0))),.rptr sc.av])]) #[43] _ _] ++ (T u' ++ J)) (by decide) rfl ?_ rfl ?_ rfl
     ·refine SX.region (SOps.light (v:=_) rfl rfl rfl (rdS rfl) ?_)
      refine SOps.nil (rdS rfl) ⟨rfl,rfl,.cons rfl (.cons rfl .nil),rfl⟩
     ·refine SX.block (SX.seq (SX.region ?_))
      iterate 2 refine SOps.light (v:=_) rfl rfl rfl (rdS rfl) ?_
      refine SOps.yieldR (own:=[x0,x1,x2,x3,x4,.row 0 1 [.yield l],.loop .busy none (lst 48 [(1,.rptr (.vw 1 ((c :: cs).map (AV.int .i64)))),(2,.rptr (.int .i64 i)),(3,.rptr sc.av),(4,.ptr 5 0 0 0),(5,.int .i64 first),(6,.int .i64 a0),(42,.func (.func 237) [] [.rptr (.vw 1 (cs.map (AV.int .i64))),.rptr (.int .i64 (w64 (w64 (i * tot) + a0))),.rptr sc.av])]) #[43] _ _]) (v:=tv) hy rfl rfl rfl rfl rfl rfl rfl (fun _ _=>avoid_noneB _) hJ trivial hst (rdS rfl) (SOps.light (v:=_) rfl rfl rfl (rdS rfl) (SOps.nil (rdS rfl) ?_))
      refine SX.cond (t:=false) rfl rfl (fun ht=>by cases ht) (fun ht=>?_)
      refine SX.skip (rdS rfl) ⟨rfl,rfl,rfl⟩
    ·intro S hS w b hb
     rcases List.mem_cons.1 hb with rfl | hb
     ·exact ⟨hS l (by omega),trivial⟩
     ·rcases List.mem_cons.1 hb with rfl | hb
      ·exact avoid_lst (al:=[(1,.rptr (.vw 1 ((c :: cs).map (AV.int .i64)))),(2,.rptr (.int .i64 i)),(3,.rptr sc.av),(4,.ptr 5 0 0 0),(5,.int .i64 first),(6,.int .i64 a0),(42,.func (.func 237) [] [.rptr (.vw 1 (cs.map (AV.int .i64))),.rptr (.int .i64 (w64 (w64 (i * tot) + a0))),.rptr sc.av])]) ⟨avoid_ints,trivial,Scope.avoid _ _,hS 5 (by omega),trivial,trivial,⟨trivial,avoid_ints,trivial,Scope.avoid _ _,trivial⟩,trivial⟩
      ·exact hT S (fun b hb=>hS b (by omega)) w b hb
   ·refine SX.rr rfl ?_
    refine eI _ (eI ⟨(gJ ++ ([ABlk.defr] ++ K2),_),hgJ.append (AllD.append (show AllD [ABlk.defr] from ⟨.inl rfl,trivial⟩) hK2),Mk.pushK hD hK2 (b:=7 + t + J.length + gJ.length) rfl⟩ (aI (ojs hb) ⟨rfl,.cons rfl (leA_of rfl),.inr ⟨?_,?_,?_⟩⟩))
    ·have key:∀ lx:ABlk,Unfilled SK7 (own2 ++ ([.row 0 1 [.yield l],lx] ++ (T w' ++ (J ++ gJ ++ [ABlk.defr] ++ K2)))) ([.resv,.resv,.resv,.resv,.resv,.row 0 1 [.yield l],.resv] ++ (T w' ++ (J ++ gJ ++ [ABlk.defr] ++ K2))):=fun lx=>by
      have:=Unfilled.own (S:=SK7) (A:=own2) (B:=[.row 0 1 [.yield l],lx]) (Tw:=T w') (J:=J ++ gJ ++ [ABlk.defr] ++ K2) (fun i hi=>?_) (fun b hb=>?_) ?_ (hT SK7 SK7_big w') (((hJ.append hgJ).append (show AllD [ABlk.defr] from ⟨.inl rfl,trivial⟩)).append hK2)
      ·rw [hown2] at this
       exact this
      ·rw [hown2] at hi
       have:i < 5:=hi
       have:i = 0 ∨ i = 1 ∨ i = 2 ∨ i = 3 ∨ i = 4:=by omega
       rcases this with rfl | rfl | rfl | rfl | rfl <;> rfl
      ·rw [hown2] at hb
       exact SK7_big b hb
      ·rw [hown2]
       exact ⟨⟨SK7_big l hl,trivial⟩,trivial,trivial⟩
     have e:J ++ (gJ ++ ([ABlk.defr] ++ K2)) = J ++ gJ ++ [ABlk.defr] ++ K2:=by simp
     show Unfilled SK7 _ ([.resv,.resv,.resv,.resv,.resv,.row 0 1 [.yield l],.resv] ++ (T w' ++ (J ++ (gJ ++ ([ABlk.defr] ++ K2)))))
     rw [e]
     exact key _
    ·exact ⟨avoid_ints,trivial,Scope.avoid _ _,rfl,trivial,trivial,trivial⟩
    ·exact Mk.avoid (fun n hn=>SK7_big n (by omega)) (Mk.pushK hD hK2 rfl)
  ·refine SX.ex ?_
   exact aI rfl (eI _ (eI ⟨(gJ,D),hgJ,hD⟩ (aI (ojs hb) ⟨rfl,.nil,.inl rfl⟩)))
 ·rintro w ⟨⟨gJ,D⟩,hgJ,hD⟩ he
  subst he
  obtain rfl:=oj hm
  exact ⟨.inl rfl,gJ,rfl,by rw [hT0]; exact hD⟩
theorem c237k7 {W:Type} (F:Nat) (sc:Scope) (step:W→Int→Option W):∀ (cols:List Int) (hcs:2 * cols.length + 1≤7) (i:Int) (w0 res:W) (hm:m237 F sc step cols i w0 = some res) {l:Nat} {T:W→List ABlk} (hy:YOk Tryz.prog l (AV.int .i64) T step 7 (fun _=>false)) (hl:7≤l)
  (t:Nat) (hT0:∀ w,(T w).length = t) (hT:∀ S,(∀ b,7≤b→S b = false)→∀ w,∀ b ∈ T w,avoidB S b) (J:List ABlk) (hJ:AllD J),
  ∃ own2 K2,own2.length = 7∧AllD K2∧ACall Tryz.prog 237 [.yield l,.rptr (.vw 1 (cols.map (AV.int .i64))),.rptr (.int .i64 i),.rptr sc.av] ([.resv,.resv,.resv,.resv,.resv,.resv,.resv] ++ (T w0 ++ J)) (.ret (.tup [])) (own2 ++ (T res ++ (J ++ K2)))
 | [],hcs,i,w0,res,hm,l,T,hy,hl,t,hT0,hT,J,hJ=>c237b7 F sc step i w0 res hm hy J hJ
 | c :: cs,hcs,i,w0,res,hm,l,T,hy,hl,t,hT0,hT,J,hJ=>c237n7 F sc step c cs (by simp at hcs; omega) i w0 res hm hy hl t hT0 hT J hJ
end Go.AL
namespace Go.AL
open Go Go.Proofs
set_option maxRecDepth 10000
set_option maxHeartbeats 4000000
def m116 (F:Nat) (sc:Scope) (sorts:List Int):Option Rel:=
 (m172 F ((sorts.length:Int)) 1 3).bind fun y1=>
 bif (!y1) then
 some ((Rel.mk 0 ([])))
 else
 (runs (fun (s2:Int)=>
 (bif decide (s2 < (sorts.length:Int)) then
 (idx sorts s2).bind fun y5=>
 (m172 F y5 0 (w64 ((sc.atoms.length:Int) - 1))).bind fun y6=>
 bif (!y6) then
 some (Out.ret ((Rel.mk 0 ([]))))
 else
 some (Out.next (w64 (s2 + 1)))
 else
 some (Out.exit (())):Option (Out (Int) (Unit) Rel))) F (0)).bind fun (o9:(Unit) ⊕ Rel)=>(match o9 with
 | .inl x7=>
 (m237 F sc (fun (out:List Int) t=>app out [t]) sorts 0 []).bind fun y10=>
 some ((Rel.mk ((sorts.length:Int)) y10))
 | .inr r11=>some r11)
theorem c116 (F:Nat) (sc:Scope) (sorts:List Int) (res:Rel) (hm:m116 F sc sorts = some res) (h:List ABlk):ACall Tryz.prog 116 [sc.av,AV.vw 1 (sorts.map (AV.int .i64))] h (.ret (res.av)) h:=by
 unfold m116 at hm
 refine ACall.mir 10 Tryz.func116 rfl (.cons (Scope.apart _) (.cons (.vw (ApartL.map fun _ _=>.int)) .nil)) (nlst rfl) ?_ h
 show SX _ _ _ 43 _ _ _ _
 refine SX.seq (SX.region (SOps.fill (v:=_) 7 rfl rfl rfl rdNone (SOps.re rfl ?_)))
 refine SX.seq (SX.seq ?_)
 refine SX.rn 1 rfl (SOps.light rfl rfl (lightV_len (f:=(AV.int .i64)) (xs:=sorts) rfl rfl Tryz.underlying28 rfl) rdNone ?_)
 obtain ⟨y1,hy1,hm⟩:=bindE hm
 refine SOps.call rfl rfl rfl rfl rfl (c172 F ((sorts.length:Int)) 1 3 y1 hy1 _) rdNone (SOps.re rfl ?_)
 refine SX.condM rfl rfl hm (fun ht hm=>?_) (fun ht hm=>?_)
 ·refine SX.seq (SX.rr rfl (SX.rt ?_))
  obtain rfl:=oj hm
  exact RetQ.mk (vs:=[AV.agg [AV.int .i64 0,AV.nils]]) rfl (.agg (.cons (.apart .int) (.cons .nils .nil)))
 ·refine SX.sk ?_
  refine SX.seq (SX.seq ?_)
  refine SX.rn 1 rfl (SOps.light rfl rfl (lightV_len (f:=(AV.int .i64)) (xs:=sorts) rfl rfl Tryz.underlying28 rfl) rdNone (SOps.re rfl ?_))
  obtain ⟨o9,ho9,hm⟩:=bindE hm
  refine SX.forget (al':=[(1,AV.vw 1 (sorts.map (AV.int .i64))),(2,AV.ptr 7 0 0 0),(4,AV.ptr 10 0 0 0),(14,AV.vw 1 (sorts.map (AV.int .i64))),(15,AV.int .i64 ((sorts.length:Int))),(16,AV.int .i64 0)]) (leA_of rfl) ?_
  refine SX.iter (fun (s2:Int) (g3:Unit)=>[(1,AV.vw 1 (sorts.map (AV.int .i64))),(2,AV.ptr 7 0 0 0),(4,AV.ptr 10 0 0 0),(14,AV.vw 1 (sorts.map (AV.int .i64))),(15,AV.int .i64 ((sorts.length:Int))),(16,AV.int .i64 s2)]) (fun (s2:Int) (g3:Unit)=>[.resv,.resv,.resv,.resv,.resv,.resv,.resv,.row 0 2 [sc.av],.resv,.resv,.row 0 2 [.agg [.int .i64 0,.nils]]]) (fun (x7:Unit) (g8:Unit)=>[(1,AV.vw 1 (sorts.map (AV.int .i64))),(2,AV.ptr 7 0 0 0),(4,AV.ptr 10 0 0 0)]) (fun (x7:Unit) (g8:Unit)=>[.resv,.resv,.resv,.resv,.resv,.resv,.resv,.row 0 2 [sc.av],.resv,.resv,.row 0 2 [.agg [.int .i64 0,.nils]]]) (fun r al df h=>Ret Tryz.prog Tryz.f116 (r.av) al df h) () ho9 rfl rfl ?_ ?_ ?_
  ·intro s2 g3 out4 hb
   refine SX.seq (SX.rr rfl (SX.seq ?_))
   refine SX.condM rfl rfl hb (fun ht hb=>?_) (fun ht hb=>?_)
   ·refine SX.sk (SX.seq (SX.block (SX.seq (SX.region ?_))))
    obtain ⟨y5,hy5,hb⟩:=bindE hb
    refine SOps.light rfl rfl (lightV_idx (f:=(AV.int .i64)) (xs:=sorts) rfl rfl Tryz.underlying28 rfl hy5) rdNone (SOps.re rfl (SX.seq (SX.rn 3 rfl (SOps.light rfl rfl (lightV_len (f:=(AV.int .i64)) (xs:=sc.atoms) rfl rfl Tryz.underlying28 rfl) rdNone (SOps.rn 1 rfl ?_)))))
    obtain ⟨y6,hy6,hb⟩:=bindE hb
    refine SOps.call rfl rfl rfl rfl rfl (c172 F y5 0 (w64 ((sc.atoms.length:Int) - 1)) y6 hy6 _) rdNone (SOps.re rfl ?_)
    refine SX.condM rfl rfl hb (fun ht hb=>?_) (fun ht hb=>?_)
    ·refine SX.seq (SX.rr rfl (SX.rt ?_))
     exact eI _ (aI (ojs hb) (Ret.mk (vs:=[AV.agg [AV.int .i64 0,AV.nils]]) rfl (.agg (.cons (.apart .int) (.cons .nils .nil)))))
    ·refine SX.sk (SX.rr rfl ?_)
     exact eI _ (eI () (aI (ojs hb) (CutTo.sr rfl)))
   ·refine SX.ex ?_
    exact aI rfl (eI _ (eI () (aI (ojs hb) (CutTo.sr rfl))))
  ·intro x7 g8 he
   subst he
   refine SX.seq (SX.rn 1 rfl (SOps.light rfl rfl (lightV_len (f:=(AV.int .i64)) (xs:=sorts) rfl rfl Tryz.underlying28 rfl) rdNone (SOps.re rfl ?_)))
   refine SX.seq (SX.seq ?_)
   refine SX.rn 2 rfl (SOps.call rfl rfl rfl rfl rfl (c178 sc 0 sorts _) rdNone (SOps.nil rdNone (SX.block ?_)))
   obtain ⟨out,hout,hm⟩:=bindE hm
   refine SX.forget (al':=[(4,.ptr 10 0 0 0),(7,.ptr 11 0 0 0),(34,.func (.func 237) [] [.rptr (.vw 1 (sorts.map (AV.int .i64))),.rptr (.int .i64 0),.rptr sc.av])]) (leA_of rfl) ?_
   refine SX.rangeN (A:=[.resv,.resv,.resv,.resv,.resv,.resv,.resv]) (t4:=.row 0 2 [sc.av]) (Tw:=[oblk 1 0 [],.row 0 2 [.agg [.int .i64 0,.nils]],.row 0 2 [.agg [.int .i64 sorts.length,osl 9 0 []]]]) (Tw2:=[oblk 1 (out.length - 1) (out.map (AV.int .i64)),.row 0 2 [.agg [.int .i64 0,.nils]],.row 0 2 [.agg [.int .i64 sorts.length,osl 9 (out.length - 1) (out.map (AV.int .i64))]]]) (J:=[]) (v:=.tup []) 8 12 rfl rfl rfl rfl rfl ?_ (fun own2 K2 hown2 hK2=>?_)
   ·have hcs:2 * sorts.length + 1≤7:=by
     simp only [m172] at hy1
     simp at ht hy1
     by_cases hq:(1:Int)≤sorts.length
     ·simp [hq] at hy1
      rw [ht] at hy1
      simp at hy1
      omega
     ·simp [hq] at hy1
      rw [ht] at hy1
      cases hy1
    refine c237k7 F sc (fun (out:List Int) t=>app out [t]) sorts hcs 0 [] out hout (l:=8) (T:=fun w=>.row 0 2 [sc.av] :: [.loop .ready none (lst 43 [(4,.ptr 10 0 0 0),(7,.ptr 11 0 0 0),(34,.func (.func 237) [] [.rptr (.vw 1 (sorts.map (AV.int .i64))),.rptr (.int .i64 0),.rptr sc.av])]) #[35] _ _,oblk 1 (w.length - 1) (w.map (AV.int .i64)),.row 0 2 [.agg [.int .i64 0,.nils]],.row 0 2 [.agg [.int .i64 sorts.length,osl 9 (w.length - 1) (w.map (AV.int .i64))]]]) ?_ (by omega) 5 (fun w=>rfl) ?_ [ABlk.defr] ⟨.inl rfl,trivial⟩
    ·refine ⟨fun u tv u' hst own J rd o ρ df cl g hown hav hJ hd ho hc hg ha=>?_⟩
     obtain ⟨x0,x1,x2,x3,x4,x5,x6,rfl⟩:=len7 hown
     refine AStep.yield ho hc hg ?_
     rw [ha]
     refine ARound.of_SX (l:=8) (N:=43) (t:=35) (al:=[(4,.ptr 10 0 0 0),(7,.ptr 11 0 0 0),(34,.func (.func 237) [] [.rptr (.vw 1 (sorts.map (AV.int .i64))),.rptr (.int .i64 0),.rptr sc.av])]) (al1:=[(7,.ptr 11 0 0 0),(8,.int .i64 tv)])
      (h1:=[x0,x1,x2,x3,x4,x5,x6,.row 0 2 [sc.av],.loop .ready none (lst 43 [(4,.ptr 10 0 0 0),(7,.ptr 11 0 0 0),(34,.func (.func 237) [] [.rptr (.vw 1 (sorts.map (AV.int .i64))),.rptr (.int .i64 0),.rptr sc.av])]) #[35] _ _,oblk 1 (u.length - 1) (u.map (AV.int .i64)),.row 0 2 [.agg [.int .i64 0,.nils]],.row 0 2 [.agg [.int .i64 sorts.length,osl 9 (u.length - 1) (u.map (AV.int .i64))]]] ++ J) (h2:=[x0,x1,x2,x3,x4,x5,x6,.row 0 2 [sc.av],.loop .busy none (lst 43 [(4,.ptr 10 0 0 0),(7,.ptr 11 0 0 0),(34,.func (.func 237) [] [.rptr (.vw 1 (sorts.map (AV.int .i64))),.rptr (.int .i64 0),.rptr sc.av])]) #[35] _ _,oblk 1 (u'.length - 1) (u'.map (AV.int .i64)),.row 0 2 [.agg [.int .i64 0,.nils]],.row 0 2 [.agg [.int .i64 sorts.length,osl 9 (u'.length - 1) (u'.map (AV.int .i64))]]] ++ J) (by decide) rfl ?_ rfl ?_ rfl
     ·refine SX.region (SOps.light (v:=_) rfl rfl rfl (rdS rfl) ?_)
      refine SOps.nil (rdS rfl) ⟨rfl,rfl,.cons rfl (.cons rfl .nil),rfl⟩
     ·refine SX.block (SX.region (SOps.light (v:=_) rfl rfl rfl (rdS rfl) (SOps.light rfl rfl (lightV_loadC rfl rfl rfl rfl rfl isAgg_osl) (rdS rfl) (SOps.light (v:=_) rfl rfl rfl (rdS rfl) (SOps.heavy (v:=_) rfl rfl rfl (rdS rfl) (SOps.grow1M (f:=AV.int .i64) (xs:=u) (y:=tv) (b:=9) rfl rfl rfl rfl rfl rfl rfl rfl rfl rfl rfl hst (rdS rfl) (SOps.light (v:=_) rfl rfl rfl (rdS rfl) (SOps.heavy (v:=.poison) rfl rfl (heavyV_storeC rfl rfl rfl cells_osl rfl (allB solid_osl rfl) rfl) (rdS rfl) ?_))))))))
      refine SOps.nil (rdS rfl) ⟨rfl,rfl,rfl⟩
    ·intro S hS w b hb
     have h9:=hS 9 (by omega)
     rcases List.mem_cons.1 hb with rfl | hb
     ·exact ⟨Scope.avoid _ _,trivial⟩
     ·rcases List.mem_cons.1 hb with rfl | hb
      ·exact avoid_lst (al:=[(4,.ptr 10 0 0 0),(7,.ptr 11 0 0 0),(34,.func (.func 237) [] [.rptr (.vw 1 (sorts.map (AV.int .i64))),.rptr (.int .i64 0),.rptr sc.av])]) ⟨hS 10 (by omega),hS 11 (by omega),⟨trivial,avoid_ints,trivial,Scope.avoid _ _,trivial⟩,trivial⟩
      ·rcases List.mem_cons.1 hb with rfl | hb
       ·exact avoid_oblk avoid_ints
       ·rcases List.mem_cons.1 hb with rfl | hb
        ·exact ⟨⟨trivial,trivial,trivial⟩,trivial⟩
        ·obtain rfl:=List.mem_singleton.1 hb
         exact ⟨⟨trivial,avoid_osl h9,trivial⟩,trivial⟩
   ·obtain ⟨x0,x1,x2,x3,x4,x5,x6,rfl⟩:=len7 hown2
    refine SX.seq (SX.region (SOps.light (v:=.agg [.int .i64 sorts.length,osl 9 (out.length - 1) (out.map (AV.int .i64))]) rfl rfl rfl rdNone (SOps.heavy (v:=.poison) rfl rfl (heavyV_storeC (b:=10) (g:=0) (off:=0) (cs:=[.int .i64 0,.nils]) rfl rfl rfl rfl rfl (allB rfl (allB solid_osl rfl)) rfl) rdNone (SOps.nil rdNone (SX.rt ?_)))))
    obtain rfl:=oj hm
    exact Ret.mkD (Pp:=[x0,x1,x2,x3,x4,x5,x6,.row 0 2 [sc.av],.loop .exhausted none _ #[35] _ _,oblk 1 (out.length - 1) (out.map (AV.int .i64)),.row 0 2 [.agg [.int .i64 sorts.length,osl 9 (out.length - 1) (out.map (AV.int .i64))]],.row 0 2 [.agg [.int .i64 sorts.length,osl 9 (out.length - 1) (out.map (AV.int .i64))]]]) (J:=[ABlk.defr] ++ K2) (vs:=[.agg [.int .i64 sorts.length,osl 9 (out.length - 1) (out.map (AV.int .i64))]])
     ⟨[],K2,hK2,rfl,rfl,trivial⟩ (fun K hK=>rfl) (fun K hK=>.agg (.cons (.apart .int) (.cons (frozen_osl rfl (ApartL.map fun _ _=>.int)) .nil)))
  ·intro r al' df' h' hr hq
   subst hr
   obtain rfl:=oj hm
   exact hq
end Go.AL
namespace Go.AL
open Go Go.Proofs
set_option maxRecDepth 10000
def m235 (F:Nat) (l:List Int) (want:Int→Option Bool):Option (List Int):=
 (runs (fun (s1:Int×List Int)=>
 (bif decide (s1.1 < (l.length:Int)) then
 (idx l s1.1).bind fun y4=>
 (want y4).bind fun y5=>
 bif y5 then
 (app s1.2 ([y4])).bind fun y6=>
 some (Out.next (w64 (s1.1 + 1),y6))
 else
 some (Out.next (w64 (s1.1 + 1),s1.2))
 else
 some (Out.exit (s1.2)):Option (Out (Int×List Int) (List Int) (List Int)))) F (0,[])).bind fun (o10:(List Int) ⊕ (List Int))=>(match o10 with
 | .inl x8=>
 some x8
 | .inr r11=>some r11)
theorem c235i (F:Nat) (l:List Int) (want:Int→Option Bool) (x0 x1 x2 x3 x4:ABlk) (hf_want:∀ z r,want z = some r→∀ own,ACall Tryz.prog 236 [AV.int .i64 z,.ptr 4 0 0 0] ([x0,x1,x2,x3,x4] ++ own) (.ret (.bool r)) ([x0,x1,x2,x3,x4] ++ own)) (res:List Int)
  (hm:m235 F l want = some res):∃ g,ACall Tryz.prog 235 [AV.vw 1 (l.map (AV.int .i64)),.func (.func 236) [] [.ptr 4 0 0 0]] [x0,x1,x2,x3,x4] (.ret (osl 5 g (res.map (AV.int .i64)))) ([x0,x1,x2,x3,x4] ++ [oblk 1 g (res.map (AV.int .i64))]):=by
 unfold m235 at hm
 refine ACall.mirI (h:=[x0,x1,x2,x3,x4]) Tryz.func235 rfl (nlst rfl) ?_
 show SX _ _ _ 23 _ _ _ _
 refine SX.seq (SX.rr rfl (SX.seq (SX.rr rfl ?_)))
 refine SX.seq (SX.seq ?_)
 refine SX.rn 1 rfl (SOps.light rfl rfl (lightV_len (f:=(AV.int .i64)) (xs:=l) rfl rfl Tryz.underlying28 rfl) rdNone (SOps.re rfl ?_))
 obtain ⟨o10,ho10,hm⟩:=bindE hm
 refine SX.forget (al':=[(1,AV.func (.func 236) [] [.ptr 4 0 0 0]),(5,osl 5 0 (([]).map (AV.int .i64))),(8,AV.vw 1 (l.map (AV.int .i64))),(9,AV.int .i64 ((l.length:Int))),(10,AV.int .i64 0)]) (leA_of rfl) ?_
 refine SX.iter (fun (s1:Int×List Int) (g2:Nat)=>[(1,AV.func (.func 236) [] [.ptr 4 0 0 0]),(5,osl 5 g2 (s1.2.map (AV.int .i64))),(8,AV.vw 1 (l.map (AV.int .i64))),(9,AV.int .i64 ((l.length:Int))),(10,AV.int .i64 s1.1)]) (fun (s1:Int×List Int) (g2:Nat)=>[x0,x1,x2,x3,x4,oblk 1 g2 (s1.2.map (AV.int .i64))]) (fun (x8:List Int) (g9:Nat)=>[(5,osl 5 g9 (x8.map (AV.int .i64)))]) (fun (x8:List Int) (g9:Nat)=>[x0,x1,x2,x3,x4,oblk 1 g9 (x8.map (AV.int .i64))]) (fun (_:List Int) _ _ _=>False) (0) ho10 rfl rfl ?_ ?_ ?_
 ·intro s1 g2 out3 hb
  refine SX.seq (SX.rr rfl (SX.seq ?_))
  refine SX.condM rfl rfl hb (fun ht hb=>?_) (fun ht hb=>?_)
  ·refine SX.sk (SX.seq (SX.block (SX.seq (SX.region ?_))))
   obtain ⟨y4,hy4,hb⟩:=bindE hb
   refine SOps.light rfl rfl (lightV_idx (f:=(AV.int .i64)) (xs:=l) rfl rfl Tryz.underlying28 rfl hy4) rdNone (SOps.re rfl (SX.seq (SX.rn 2 rfl ?_)))
   obtain ⟨y5,hy5,hb⟩:=bindE hb
   refine SOps.call rfl rfl rfl rfl rfl (hf_want y4 y5 hy5 _) rdNone (SOps.nil rdNone ?_)
   refine SX.condM rfl rfl hb (fun ht hb=>?_) (fun ht hb=>?_)
   ·refine SX.rn 3 rfl ?_
    obtain ⟨y6,hy6,hb⟩:=bindE hb
    refine SOps.growM (f:=(AV.int .i64)) (xs:=s1.2) (ys:=[y4]) (b:=5) (g:=g2) rfl rfl rfl rfl rfl rfl rfl rfl rfl (fun _=>rfl) rfl hy6 fun g7=>(SOps.re rfl (SX.rr rfl ?_))
    exact eI _ (eI (g7) (aI (ojs hb) (CutTo.sr rfl)))
   ·refine SX.sk (SX.rr rfl ?_)
    exact eI _ (eI (g2) (aI (ojs hb) (CutTo.sr rfl)))
  ·refine SX.ex ?_
   exact aI rfl (eI _ (eI (g2) (aI (ojs hb) (CutTo.sr rfl))))
 ·intro x8 g9 he
  subst he
  refine SX.seq (SX.rr rfl (SX.rt ?_))
  obtain rfl:=oj hm
  exact ⟨rfl,rfl,g9,rfl,rfl⟩
 ·intro r al' df' h' hr hq
  subst hr
  exact hq.elim
theorem c236 (z:Int) (m:List (Int×Int)) (x0 x1 x2:ABlk) (own:List ABlk):ACall Tryz.prog 236 [AV.int .i64 z,.ptr 4 0 0 0] ([x0,x1,x2,.map (kvs m),.row 0 1 [.map 3]] ++ own) (.ret (.bool (mget m z == 0))) ([x0,x1,x2,.map (kvs m),.row 0 1 [.map 3]] ++ own):=by
 refine ACall.of_SX Tryz.func236 rfl (nlst rfl) ?_
 show SX _ _ _ 8 _ _ _ _
 refine SX.seq (SX.rr rfl (SX.seq (SX.rn 2 rfl (SOps.light rfl rfl (lightV_lookupI (l:=m) rfl rfl rfl Tryz.underlying309 Tryz.underlying3 rfl) rdNone (SOps.re rfl (SX.rt ?_))))))
 exact ⟨.returning,rfl,ALeave.ret (vs:=[.bool (mget m z == 0)]) rfl⟩
def m233 (F:Nat) (r:Rel) (f:Int→Option Int):Option (List (Int×Int)):=
 (runs (fun (s:Int×List (Int×Int))=>
 (bif decide (s.1 < (r.tuples.length:Int)) then
 (idx r.tuples s.1).bind fun y=>
 (f y).bind fun k=>
 some (Out.next (w64 (s.1 + 1),mput s.2 k (w64 (mget s.2 k + 1))))
 else
 some (Out.exit s.2):Option (Out (Int×List (Int×Int)) (List (Int×Int)) Unit))) F (0,[])).bind fun (o:List (Int×Int) ⊕ Unit)=>(match o with
 | .inl x=>some x
 | .inr _=>none)
theorem c233 (F:Nat) (r:Rel) (fk_f:FuncId) (caps_f:List AV) (f:Int→Option Int) (hcal_f:callable Tryz.prog fk_f = true) (hcaps_f:ApartL caps_f)
  (hf_f:∀ z0 r,f z0 = some r→∀ h,ACall Tryz.prog fk_f ([AV.int .i64 z0] ++ caps_f) h (.ret (AV.int .i64 r)) h) (res:List (Int×Int)) (hm:m233 F r f = some res) (h:List ABlk) :
  ACall Tryz.prog 233 [r.av,.func (.func fk_f) [] caps_f] h (.ret (.map h.length)) (h ++ [.map (kvs res)]):=by
 unfold m233 at hm
 refine ACall.mirM Tryz.func233 rfl (.cons (Rel.apart _) (.cons (.func .nil hcaps_f) .nil)) (nlst rfl) ?_ h
 show SX _ _ _ 24 _ _ _ _
 refine SX.seq (SX.rr rfl (SX.seq (SX.rr rfl ?_)))
 refine SX.seq (SX.seq ?_)
 refine SX.rn 2 rfl (SOps.light rfl rfl (lightV_len (f:=(AV.int .i64)) (xs:=r.tuples) rfl rfl Tryz.underlying28 rfl) rdNone (SOps.re rfl ?_))
 obtain ⟨o,ho,hm⟩:=bindE hm
 refine SX.forget (al':=[(1,.func (.func fk_f) [] caps_f),(5,.map 1),(10,.vw 1 (ints r.tuples)),(11,.int .i64 r.tuples.length),(12,.int .i64 0)]) (leA_of rfl) ?_
 refine SX.iter (fun (s:Int×List (Int×Int)) (_:Unit)=>[(1,.func (.func fk_f) [] caps_f),(5,.map 1),(10,.vw 1 (ints r.tuples)),(11,.int .i64 r.tuples.length),(12,.int .i64 s.1)])
  (fun (s:Int×List (Int×Int)) (_:Unit)=>[.row 0 2 [r.av],.map (kvs s.2)]) (fun (x:List (Int×Int)) (_:Unit)=>[(5,.map 1)]) (fun (x:List (Int×Int)) (_:Unit)=>[.row 0 2 [r.av],.map (kvs x)]) (fun (_:Unit) _ _ _=>False) () ho rfl rfl ?_ ?_ ?_
 ·intro s g out hb
  refine SX.seq (SX.rr rfl (SX.seq ?_))
  refine SX.condM rfl rfl hb (fun ht hb=>?_) (fun ht hb=>?_)
  ·refine SX.sk (SX.seq (SX.block (SX.seq (SX.region ?_))))
   obtain ⟨y,hy,hb⟩:=bindE hb
   refine SOps.light rfl rfl (lightV_idx (f:=(AV.int .i64)) (xs:=r.tuples) rfl rfl Tryz.underlying28 rfl hy) rdNone (SOps.re rfl (SX.rn 3 rfl ?_))
   obtain ⟨k,hk,hb⟩:=bindE hb
   refine SOps.call rfl rfl rfl rfl hcal_f (hf_f y k hk _) rdNone (SOps.light rfl rfl (lightV_lookupI (l:=s.2) rfl rfl rfl Tryz.underlying309 Tryz.underlying3 rfl) rdNone (SOps.rn 1 rfl (SOps.heavy (v:=.poison) rfl rfl (heavyV_mapSetI (l:=s.2) rfl rfl rfl rfl Tryz.underlying309 Tryz.underlying3) rdNone (SOps.nil rdNone (SX.rr rfl ?_)))))
   exact eI _ (eI () (aI (ojs hb) (CutTo.sr rfl)))
  ·refine SX.ex ?_
   exact aI rfl (eI _ (eI () (aI (ojs hb) (CutTo.sr rfl))))
 ·intro x g he
  subst he
  refine SX.seq (SX.rr rfl (SX.rt ?_))
  obtain rfl:=oj hm
  exact RetM.mk (b:=1) rfl rfl
 ·intro r al' df' h' hr hq
  exact hq.elim
def m234 (F:Nat) (t:Int):Option Int:=some t
theorem c234 (F:Nat) (t:Int) (res:Int) (hm:m234 F t = some res) (h:List ABlk):ACall Tryz.prog 234 [AV.int .i64 t] h (.ret (AV.int .i64 res)) h:=by
 obtain rfl:=oj hm
 refine ACall.mir 0 Tryz.func234 rfl (.cons .int .nil) (nlst rfl) ?_ h
 show SX _ _ _ 4 _ _ _ _
 refine SX.seq (SX.rr rfl (SX.seq (SX.rr rfl (SX.rt ?_))))
 exact RetQ.mk (vs:=[AV.int .i64 t]) rfl (.apart .int)
theorem build85 (a:Int) (b g:Nat) (xs:List AV):buildV Tryz.prog 85 [(0,.int .i64 a),(1,osl b g xs)] = some (.agg [.int .i64 a,osl b g xs]):=by cases xs <;> rfl
def m177 (F:Nat) (a b:Rel):Option Rel:=
 (m233 F b (fun z=>m234 F z)).bind fun m=>
 (m235 F a.tuples (fun z=>some (mget m z == 0))).bind fun zs=>
 some (Rel.mk a.arity zs)
theorem c177 (F:Nat) (a b:Rel) (res:Rel) (hm:m177 F a b = some res) (h:List ABlk):ACall Tryz.prog 177 [a.av,b.av] h (.ret res.av) h:=by
 unfold m177 at hm
 obtain ⟨m,hy1,hm⟩:=bindE hm
 obtain ⟨zs,hy2,hm⟩:=bindE hm
 refine ACall.mir 0 Tryz.func177 rfl (.cons (Rel.apart _) (.cons (Rel.apart _) .nil)) (nlst rfl) ?_ h
 show SX _ _ _ 15 _ _ _ _
 refine SX.seq (SX.rr rfl (SX.seq (SX.rn 1 rfl (SOps.call rfl rfl rfl rfl rfl (c233 F b 234 [] (fun z=>m234 F z) rfl .nil (fun z r hz h=>c234 F z r hz h) m hy1 _) rdNone (SOps.re rfl (SX.seq ?_))))))
 obtain ⟨g,hcall⟩:=c235i F a.tuples (fun z=>some (mget m z == 0)) (.row 0 2 [a.av]) (.row 0 2 [b.av]) (.row 0 2 [.agg [.int .i64 0,.nils]]) (.map (kvs m)) (.row 0 1 [.map 3]) (fun z r hr own=>by
  obtain rfl:=oj hr
  exact c236 z m _ _ _ own) zs hy2
 refine SX.drawG 160 0 [(0,[.row 0 2 [a.av],.row 0 2 [b.av],.row 0 2 [.agg [.int .i64 0,.nils]],.map (kvs m),.row 0 1 [.map 3]]),
  (32,[.row 0 2 [a.av],.row 0 2 [b.av],.row 0 2 [.agg [.int .i64 0,.nils]],.map (kvs m),.row 0 1 [.map 3],oblk 1 g (zs.map (AV.int .i64))]),
  (160,[.row 0 2 [a.av],.row 0 2 [b.av],.row 0 2 [.agg [.int .i64 a.arity,osl 5 g (zs.map (AV.int .i64))]],.map (kvs m),.row 0 1 [.map 3],oblk 1 g (zs.map (AV.int .i64))])]
  [.row 0 2 [a.av],.row 0 2 [b.av],.row 0 2 [.agg [.int .i64 a.arity,osl 5 g (zs.map (AV.int .i64))]],.map (kvs m),.row 0 1 [.map 3],oblk 1 g (zs.map (AV.int .i64))] follows_mixed rfl rfl (.head _) (aI trivial (aI trivial (aI rfl trivial))) ?_
 iterate 2 refine GO.light (v:=_) rfl rfl rfl (aI rfl (aI rfl (aI trivial trivial))) ?_
 iterate 2 refine GO.light (v:=_) rfl rfl rfl (aI rfl (aI trivial (aI trivial trivial))) ?_
 refine GO.light (v:=_) rfl rfl rfl (aI rfl (aI trivial (aI trivial trivial))) (GO.callH rfl rfl rfl rfl rfl rfl (aI (eI _ (aI hcall (.tail _ (.head _)))) (aI trivial (aI trivial trivial))) (GO.light (v:=_) rfl rfl rfl (aI trivial (aI (build85 a.arity 5 g _) (aI trivial trivial))) (GO.heavy (v:=.poison) rfl rfl rfl (aI trivial (aI (eI _ (aI (heavyV_storeC rfl rfl rfl rfl rfl (allB rfl (allB solid_osl rfl)) rfl) (.tail _ (.tail _ (.head _))))) (aI trivial trivial))) (GO.nil (SX.rt ?_)))))
 obtain rfl:=oj hm
 exact RetQ.mk (vs:=[.agg [.int .i64 a.arity,osl 5 g (zs.map (AV.int .i64))]]) rfl (.agg (.cons (.apart .int) (.cons (frozen_osl rfl (ApartL.map fun _ _=>.int)) .nil)))
end Go.AL
namespace Go.AL
open Go Go.Proofs
set_option maxRecDepth 10000
def m119 (F:Nat) (a:List Bound) (b:List Rel) (holds:Bound→Rel→Option Bool):Option Bool:=
 bif ((a.length:Int) != (b.length:Int)) then
 some false
 else
 (runs (fun (s1:Int)=>
 (bif decide (s1 < (a.length:Int)) then
 (idx a s1).bind fun y4=>
 (idx b s1).bind fun y5=>
 (holds y4 y5).bind fun y6=>
 bif (!y6) then
 some (Out.ret false)
 else
 some (Out.next (w64 (s1 + 1)))
 else
 some (Out.exit (())):Option (Out (Int) (Unit) Bool))) F (0)).bind fun (o9:(Unit) ⊕ Bool)=>(match o9 with
 | .inl x7=>
 some true
 | .inr r10=>some r10)
theorem c119 (F:Nat) (a:List Bound) (b:List Rel) (fk_holds:FuncId) (caps_holds:List AV) (holds:Bound→Rel→Option Bool) (hcal_holds:callable Tryz.prog fk_holds = true) (hcaps_holds:ApartL caps_holds) (hf_holds:∀ z0 z1 r,holds z0 z1 = some r→∀ h,ACall Tryz.prog fk_holds ([z0.av,z1.av] ++ caps_holds) h (.ret (AV.bool r)) h) (res:Bool) (hm:m119 F a b holds = some res) (h:List ABlk) (args0:List AV) (hargs:ReadL h args0 [AV.vw 4 (a.map Bound.av),AV.vw 2 (b.map Rel.av),AV.func (.func fk_holds) [] caps_holds]):ACall Tryz.prog 119 args0 h (.ret (AV.bool res)) h:=by
 unfold m119 at hm
 refine ACall.mirR 0 Tryz.func119 rfl hargs (nlst rfl) ?_
 show SX _ _ _ 30 _ _ _ _
 refine SX.seq (SX.rr rfl ?_)
 refine SX.seq (SX.seq ?_)
 refine SX.rn 1 rfl (SOps.light rfl rfl (lightV_len (f:=Bound.av) (xs:=a) rfl rfl Tryz.underlying31 rfl) rdNone (SOps.rn 1 rfl (SOps.light rfl rfl (lightV_len (f:=Rel.av) (xs:=b) rfl rfl Tryz.underlying78 rfl) rdNone (SOps.re rfl ?_))))
 refine SX.condM rfl rfl hm (fun ht hm=>?_) (fun ht hm=>?_)
 ·refine SX.seq (SX.rr rfl (SX.rt ?_))
  obtain rfl:=oj hm
  exact RetRQ.mk (vs:=[AV.bool false]) rfl .bool
 ·refine SX.sk ?_
  refine SX.seq (SX.seq ?_)
  refine SX.rn 1 rfl (SOps.light rfl rfl (lightV_len (f:=Bound.av) (xs:=a) rfl rfl Tryz.underlying31 rfl) rdNone (SOps.re rfl ?_))
  obtain ⟨o9,ho9,hm⟩:=bindE hm
  refine SX.forget (al':=[(0,AV.vw 4 (a.map Bound.av)),(1,AV.vw 2 (b.map Rel.av)),(2,AV.func (.func fk_holds) [] caps_holds),(14,AV.int .i64 ((a.length:Int))),(15,AV.int .i64 0)]) (leA_of rfl) ?_
  refine SX.iter (fun (s1:Int) (g2:Unit)=>[(0,AV.vw 4 (a.map Bound.av)),(1,AV.vw 2 (b.map Rel.av)),(2,AV.func (.func fk_holds) [] caps_holds),(14,AV.int .i64 ((a.length:Int))),(15,AV.int .i64 s1)]) (fun (s1:Int) (g2:Unit)=>[]) (fun (x7:Unit) (g8:Unit)=>[]) (fun (x7:Unit) (g8:Unit)=>[]) (fun r al df h=>RetR Tryz.prog Tryz.f119 (AV.bool r) al df h) () ho9 rfl rfl ?_ ?_ ?_
  ·intro s1 g2 out3 hb
   refine SX.seq (SX.rr rfl (SX.seq ?_))
   refine SX.condM rfl rfl hb (fun ht hb=>?_) (fun ht hb=>?_)
   ·refine SX.sk (SX.seq (SX.block (SX.seq (SX.rr rfl (SX.seq (SX.draw follows_mixed rfl rdNone (PO.rn 3 rfl ?_)))))))
    obtain ⟨y4,hy4,hb⟩:=bindE hb
    refine PO.light rfl rfl (lightV_idx (f:=Bound.av) (xs:=a) rfl rfl Tryz.underlying31 rfl hy4) (PO.rn 3 rfl ?_)
    obtain ⟨y5,hy5,hb⟩:=bindE hb
    refine PO.light rfl rfl (lightV_idx (f:=Rel.av) (xs:=b) rfl rfl Tryz.underlying78 rfl hy5) (PO.rn 1 rfl ?_)
    obtain ⟨y6,hy6,hb⟩:=bindE hb
    refine PO.call rfl rfl rfl rfl hcal_holds (hf_holds y4 y5 y6 hy6 _) (PO.re rfl ?_)
    refine SX.condM rfl rfl hb (fun ht hb=>?_) (fun ht hb=>?_)
    ·refine SX.seq (SX.rr rfl (SX.rt ?_))
     exact eI _ (aI (ojs hb) (RetR.mk (vs:=[AV.bool false]) rfl .bool))
    ·refine SX.sk (SX.rr rfl ?_)
     exact eI _ (eI () (aI (ojs hb) (CutTo.sr rfl)))
   ·refine SX.ex ?_
    exact aI rfl (eI _ (eI () (aI (ojs hb) (CutTo.sr rfl))))
  ·intro x7 g8 he
   subst he
   refine SX.seq (SX.rr rfl (SX.rt ?_))
   obtain rfl:=oj hm
   exact RetRQ.mk (vs:=[AV.bool true]) rfl .bool
  ·intro r al' df' h' hr hq
   subst hr
   obtain rfl:=oj hm
   exact hq
def m179 (F:Nat) (s_0:List (List Rel)) (f:(List Rel)→Option Bool):Option Int:=
 (runs (fun (s1:Int)=>
 (bif decide (s1 < (s_0.length:Int)) then
 (idx s_0 s1).bind fun y4=>
 (f y4).bind fun y5=>
 bif y5 then
 some (Out.ret s1)
 else
 some (Out.next (w64 (s1 + 1)))
 else
 some (Out.exit (())):Option (Out (Int) (Unit) Int))) F (0)).bind fun (o8:(Unit) ⊕ Int)=>(match o8 with
 | .inl x6=>
 some ((-1))
 | .inr r9=>some r9)
theorem c179 (F:Nat) (s_0:List (List Rel)) (fk_f:FuncId) (caps_f:List AV) (f:(List Rel)→Option Bool) (hcal_f:callable Tryz.prog fk_f = true) (hcaps_f:ApartL caps_f) (hf_f:∀ z0 r,f z0 = some r→∀ h,ACall Tryz.prog fk_f ([AV.vw 2 (z0.map Rel.av)] ++ caps_f) h (.ret (AV.bool r)) h) (res:Int) (hm:m179 F s_0 f = some res) (h:List ABlk) (args0:List AV) (hargs:ReadL h args0 [AV.vw 1 (s_0.map (fun l=>AV.vw 2 (l.map Rel.av))),AV.func (.func fk_f) [] caps_f]):ACall Tryz.prog 179 args0 h (.ret (AV.int .i64 res)) h:=by
 unfold m179 at hm
 refine ACall.mirR 0 Tryz.func179 rfl hargs (nlst rfl) ?_
 show SX _ _ _ 19 _ _ _ _
 refine SX.seq (SX.rr rfl ?_)
 refine SX.seq (SX.seq ?_)
 refine SX.rn 1 rfl (SOps.light rfl rfl (lightV_len (f:=(fun l=>AV.vw 2 (l.map Rel.av))) (xs:=s_0) rfl rfl Tryz.underlying35 rfl) rdNone (SOps.re rfl ?_))
 obtain ⟨o8,ho8,hm⟩:=bindE hm
 refine SX.forget (al':=[(0,AV.vw 1 (s_0.map (fun l=>AV.vw 2 (l.map Rel.av)))),(1,AV.func (.func fk_f) [] caps_f),(7,AV.int .i64 ((s_0.length:Int))),(8,AV.int .i64 0)]) (leA_of rfl) ?_
 refine SX.iter (fun (s1:Int) (g2:Unit)=>[(0,AV.vw 1 (s_0.map (fun l=>AV.vw 2 (l.map Rel.av)))),(1,AV.func (.func fk_f) [] caps_f),(7,AV.int .i64 ((s_0.length:Int))),(8,AV.int .i64 s1)]) (fun (s1:Int) (g2:Unit)=>[]) (fun (x6:Unit) (g7:Unit)=>[]) (fun (x6:Unit) (g7:Unit)=>[]) (fun r al df h=>RetR Tryz.prog Tryz.f179 (AV.int .i64 r) al df h) () ho8 rfl rfl ?_ ?_ ?_
 ·intro s1 g2 out3 hb
  refine SX.seq (SX.rr rfl (SX.seq ?_))
  refine SX.condM rfl rfl hb (fun ht hb=>?_) (fun ht hb=>?_)
  ·refine SX.sk (SX.seq (SX.block (SX.seq (SX.rr rfl (SX.seq (SX.rn 3 rfl ?_))))))
   obtain ⟨y4,hy4,hb⟩:=bindE hb
   refine SOps.light rfl rfl (lightV_idx (f:=(fun l=>AV.vw 2 (l.map Rel.av))) (xs:=s_0) rfl rfl Tryz.underlying35 rfl hy4) rdNone (SOps.rn 1 rfl ?_)
   obtain ⟨y5,hy5,hb⟩:=bindE hb
   refine SOps.call rfl rfl rfl rfl hcal_f (hf_f y4 y5 hy5 _) rdNone (SOps.nil rdNone ?_)
   refine SX.condM rfl rfl hb (fun ht hb=>?_) (fun ht hb=>?_)
   ·refine SX.seq (SX.rr rfl (SX.rt ?_))
    exact eI _ (aI (ojs hb) (RetR.mk (vs:=[AV.int .i64 s1]) rfl .int))
   ·refine SX.sk (SX.rr rfl ?_)
    exact eI _ (eI () (aI (ojs hb) (CutTo.sr rfl)))
  ·refine SX.ex ?_
   exact aI rfl (eI _ (eI () (aI (ojs hb) (CutTo.sr rfl))))
 ·intro x6 g7 he
  subst he
  refine SX.seq (SX.rr rfl (SX.rt ?_))
  obtain rfl:=oj hm
  exact RetRQ.mk (vs:=[AV.int .i64 ((-1))]) rfl .int
 ·intro r al' df' h' hr hq
  subst hr
  obtain rfl:=oj hm
  exact hq
def m121 (F:Nat) (s_0:List (List Rel)) (f:(List Rel)→Option Bool):Option Bool:=
 (m179 F s_0 f).bind fun y1=>
 some (decide (0≤y1))
theorem c121 (F:Nat) (s_0:List (List Rel)) (fk_f:FuncId) (caps_f:List AV) (f:(List Rel)→Option Bool) (hcal_f:callable Tryz.prog fk_f = true) (hcaps_f:ApartL caps_f) (hf_f:∀ z0 r,f z0 = some r→∀ h,ACall Tryz.prog fk_f ([AV.vw 2 (z0.map Rel.av)] ++ caps_f) h (.ret (AV.bool r)) h) (res:Bool) (hm:m121 F s_0 f = some res) (h:List ABlk) (args0:List AV) (hargs:ReadL h args0 [AV.vw 1 (s_0.map (fun l=>AV.vw 2 (l.map Rel.av))),AV.func (.func fk_f) [] caps_f]):ACall Tryz.prog 121 args0 h (.ret (AV.bool res)) h:=by
 unfold m121 at hm
 refine ACall.mirR 0 Tryz.func121 rfl hargs (nlst rfl) ?_
 show SX _ _ _ 9 _ _ _ _
 refine SX.seq (SX.rr rfl (SX.seq (SX.rn 2 rfl ?_)))
 obtain ⟨y1,hy1,hm⟩:=bindE hm
 refine SOps.call rfl rfl rfl rfl rfl (c179 F s_0 fk_f caps_f f hcal_f hcaps_f hf_f y1 hy1 _ _ (.cons (.apart (.vw (ApartL.map fun _ _=>(.vw (ApartL.map fun _ _=>(Rel.apart _)))))) (.cons (.apart (.func .nil hcaps_f)) .nil))) rdNone (SOps.re rfl (SX.rt ?_))
 obtain rfl:=oj hm
 exact RetRQ.mk (vs:=[AV.bool (decide (0≤y1))]) rfl .bool
end Go.AL
namespace Go.AL
open Go Go.Proofs
set_option maxRecDepth 10000
def m115 (F:Nat) (a:Rel) (b:Rel):Option Bool:=
 (m177 F a b).bind fun y1=>
 some (((y1.tuples.length:Int) == 0))
theorem c115 (F:Nat) (a:Rel) (b:Rel) (res:Bool) (hm:m115 F a b = some res) (h:List ABlk):ACall Tryz.prog 115 [a.av,b.av] h (.ret (AV.bool res)) h:=by
 unfold m115 at hm
 refine ACall.mir 0 Tryz.func115 rfl (.cons (Rel.apart _) (.cons (Rel.apart _) .nil)) (nlst rfl) ?_ h
 show SX _ _ _ 11 _ _ _ _
 refine SX.seq (SX.rr rfl (SX.seq (SX.rn 2 rfl ?_)))
 obtain ⟨y1,hy1,hm⟩:=bindE hm
 refine SOps.call rfl rfl rfl rfl rfl (c177 F a b y1 hy1 _) rdNone (SOps.rn 1 rfl (SOps.light rfl rfl (lightV_len (f:=(AV.int .i64)) (xs:=y1.tuples) rfl rfl Tryz.underlying28 rfl) rdNone (SOps.re rfl (SX.rt ?_))))
 obtain rfl:=oj hm
 exact RetQ.mk (vs:=[AV.bool (((y1.tuples.length:Int) == 0))]) rfl (.apart .bool)
def m120 (F:Nat) (x:Bound) (r:Rel):Option Bool:=
 (bif (x.lower.arity == r.arity) then
 some ((x.upper.arity == r.arity))
 else
 some (false)).bind fun p1=>
 (bif p1 then
 (m115 F x.lower r).bind fun y3=>
 bif y3 then
 (m115 F r x.upper).bind fun y4=>
 some (y4)
 else
 some (false)
 else
 some (false)).bind fun p5=>
 some p5
theorem c120 (F:Nat) (x:Bound) (r:Rel) (res:Bool) (hm:m120 F x r = some res) (h:List ABlk):ACall Tryz.prog 120 [x.av,r.av] h (.ret (AV.bool res)) h:=by
 unfold m120 at hm
 refine ACall.mir 0 Tryz.func120 rfl (.cons (Bound.apart _) (.cons (Rel.apart _) .nil)) (nlst rfl) ?_ h
 show SX _ _ _ 33 _ _ _ _
 refine SX.seq (SX.rr rfl (SX.seq ?_))
 obtain ⟨p1,hj,hm⟩:=bindE hm
 refine SX.join ([(2,AV.ptr 0 0 0 0),(3,AV.ptr 1 0 0 0),(5,AV.bool p1)]) ([ABlk.row 0 4 [x.av],ABlk.row 0 2 [r.av]]) (SX.region ?_) ?_
 ·refine SOps.rn 6 rfl ?_
  refine SOps.splitM rfl rfl rfl rdNone hj (fun hj=>?_) (fun hj=>?_)
  ·refine SOps.re rfl ?_
   obtain rfl:=oj hj
   exact ⟨rfl,CutTo.sr rfl⟩
  ·refine SOps.re rfl ?_
   obtain rfl:=oj hj
   exact ⟨rfl,CutTo.sr rfl⟩
 refine SX.seq ?_
 obtain ⟨p5,hj,hm⟩:=bindE hm
 refine SX.join ([(4,AV.bool p5)]) ([ABlk.row 0 4 [x.av],ABlk.row 0 2 [r.av]]) (SX.region ?_) ?_
 ·refine SOps.rn 1 rfl ?_
  refine SOps.splitM rfl rfl rfl rdNone hj (fun hj=>?_) (fun hj=>?_)
  ·refine SOps.rn 3 rfl ?_
   obtain ⟨y3,hy3,hj⟩:=bindE hj
   refine SOps.call rfl rfl rfl rfl rfl (c115 F x.lower r y3 hy3 _) rdNone (SOps.rn 1 rfl ?_)
   refine SOps.splitM rfl rfl rfl rdNone hj (fun hj=>?_) (fun hj=>?_)
   ·refine SOps.rn 3 rfl ?_
    obtain ⟨y4,hy4,hj⟩:=bindE hj
    refine SOps.call rfl rfl rfl rfl rfl (c115 F r x.upper y4 hy4 _) rdNone (SOps.re rfl ?_)
    obtain rfl:=oj hj
    exact ⟨rfl,CutTo.sr rfl⟩
   ·refine SOps.re rfl ?_
    obtain rfl:=oj hj
    exact ⟨rfl,CutTo.sr rfl⟩
  ·refine SOps.re rfl ?_
   obtain rfl:=oj hj
   exact ⟨rfl,CutTo.sr rfl⟩
 refine SX.rt ?_
 obtain rfl:=oj hm
 exact RetQ.mk (vs:=[AV.bool p5]) rfl (.apart .bool)
def m118 (F:Nat) (state:List Rel) (a1:List Bound):Option Bool:=
 (m119 F a1 state (fun z0 z1=>m120 F z0 z1)).bind fun y1=>
 some ((!y1))
theorem c118 (F:Nat) (state:List Rel) (a1:List Bound) (res:Bool) (hm:m118 F state a1 = some res) (h:List ABlk):ACall Tryz.prog 118 [AV.vw 2 (state.map Rel.av),AV.rptr (AV.vw 4 (a1.map Bound.av))] h (.ret (AV.bool res)) h:=by
 unfold m118 at hm
 refine ACall.mir 0 Tryz.func118 rfl (.cons (.vw (ApartL.map fun _ _=>(Rel.apart _))) (.cons (.rptr (.vw (ApartL.map fun _ _=>(Bound.apart _)))) .nil)) (nlst rfl) ?_ h
 show SX _ _ _ 8 _ _ _ _
 refine SX.seq (SX.rr rfl (SX.seq (SX.rn 2 rfl ?_)))
 obtain ⟨y1,hy1,hm⟩:=bindE hm
 refine SOps.call rfl rfl rfl rfl rfl (c119 F a1 state 120 [] (fun z0 z1=>m120 F z0 z1) rfl .nil (fun z0 z1 r hx h=>c120 F z0 z1 r hx h) y1 hy1 _ _ (.cons (.apart (.vw (ApartL.map fun _ _=>(Bound.apart _)))) (.cons (.apart (.vw (ApartL.map fun _ _=>(Rel.apart _)))) (.cons (.func .nil .nil) .nil)))) rdNone (SOps.re rfl (SX.rt ?_))
 obtain rfl:=oj hm
 exact RetQ.mk (vs:=[AV.bool ((!y1))]) rfl (.apart .bool)
def m67 (F:Nat) (b:List Bound) (m:Model):Option Bool:=
 (m121 F m.states (fun z0=>m118 F z0 b)).bind fun y1=>
 some ((!y1))
theorem c67 (F:Nat) (b:List Bound) (m:Model) (res:Bool) (hm:m67 F b m = some res) (h:List ABlk):ACall Tryz.prog 67 [AV.vw 4 (b.map Bound.av),m.av] h (.ret (AV.bool res)) h:=by
 unfold m67 at hm
 refine ACall.mir 0 Tryz.func67 rfl (.cons (.vw (ApartL.map fun _ _=>(Bound.apart _))) (.cons (Model.apart _) .nil)) (nlst rfl) ?_ h
 show SX _ _ _ 12 _ _ _ _
 refine SX.seq (SX.rr rfl (SX.seq (SX.rr rfl (SX.seq (SX.rn 3 rfl ?_)))))
 obtain ⟨y1,hy1,hm⟩:=bindE hm
 refine SOps.call rfl rfl rfl rfl rfl (c121 F m.states 118 [AV.rptr (AV.vw 4 (b.map Bound.av))] (fun z0=>m118 F z0 b) rfl (.cons (.rptr (.vw (ApartL.map fun _ _=>(Bound.apart _)))) .nil) (fun z0 r hx h=>c118 F z0 b r hx h) y1 hy1 _ _ (.cons (.apart (.vw (ApartL.map fun _ _=>(.vw (ApartL.map fun _ _=>(Rel.apart _)))))) (.cons (.func .nil (.cons (.ptr rfl rfl (Nat.succ_ne_zero _) (.apart (.vw (ApartL.map fun _ _=>(Bound.apart _))))) .nil)) .nil))) rdNone (SOps.re rfl (SX.rt ?_))
 obtain rfl:=oj hm
 exact RetQ.mk (vs:=[AV.bool ((!y1))]) rfl (.apart .bool)
end Go.AL
namespace Go.AL
open Go Go.Proofs
set_option maxRecDepth 10000
set_option maxHeartbeats 4000000
def m55 (F:Nat) (sp:Spec) (sc:Scope) (b:List Bound):Option Layout:=
 (m104 F b).bind fun y1=>
 some ((Layout.mk sc sp b y1))
theorem c55 (F:Nat) (sp:Spec) (sc:Scope) (b:List Bound) (res:Layout) (hm:m55 F sp sc b = some res) (h:List ABlk):ACall Tryz.prog 55 [sp.av,sc.av,AV.vw 4 (b.map Bound.av)] h (.ret (AV.rptr (res.av))) h:=by
 unfold m55 at hm
 refine ACall.mir 0 Tryz.func55 rfl (.cons (Spec.apart _) (.cons (Scope.apart _) (.cons (.vw (ApartL.map fun _ _=>(Bound.apart _))) .nil))) (nlst rfl) ?_ h
 show SX _ _ _ 14 _ _ _ _
 refine SX.seq (SX.rr rfl (SX.seq (SX.drawS 64 follows_mixed rfl rfl ?_)))
 iterate 4 refine QO.light (v:=_) rfl rfl rfl ?_
 obtain ⟨y1,hy1,hm⟩:=bindE hm
 refine QO.call rfl rfl rfl rfl rfl (c104 F b y1 hy1 _) (QO.light (v:=_) rfl rfl rfl (QO.heavy (v:=_) rfl rfl rfl rfl (QO.light (v:=_) rfl rfl rfl (QO.nil (SX.rt ?_)))))
 obtain rfl:=oj hm
 exact RetQ.mk (vs:=[AV.ptr 2 0 0 0]) rfl (.ptr rfl rfl (Nat.succ_ne_zero _) (.apart (Layout.apart ((Layout.mk sc sp b y1)))))
end Go.AL
namespace Go.AL
open Go Go.Proofs
set_option maxRecDepth 10000
set_option maxHeartbeats 4000000
def m66 (F:Nat) (sp:Spec) (m:Model):Option Bool:=
 (m111 F sp m.scope).bind fun y1=>
 (bif (!y1) then
 some (true)
 else
 bif ((m.states.length:Int) != m.scope.steps) then
 some (true)
 else
 bif decide (m.loop < 0) then
 some (true)
 else
 some (decide ((m.states.length:Int)≤m.loop))).bind fun p2=>
 bif p2 then
 some false
 else
 (m112 F m.scope).bind fun y4=>
 (runs (fun (s5:Int)=>
 (bif decide (s5 < (sp.fields.length:Int)) then
 (idx sp.fields s5).bind fun y8=>
 (m113 F sp y8).bind fun y9=>
 bif (!y9) then
 some (Out.ret false)
 else
 some (Out.next (w64 (s5 + 1)))
 else
 some (Out.exit (())):Option (Out (Int) (Unit) Bool))) F (0)).bind fun (o12:(Unit) ⊕ Bool)=>(match o12 with
 | .inl x10=>
 (runs (fun (s13:Int)=>
 (bif decide (s13 < (m.states.length:Int)) then
 (idx m.states s13).bind fun y16=>
 bif ((y16.length:Int) != (sp.fields.length:Int)) then
 some (Out.ret false)
 else
 (runs (fun (s17:Int)=>
 (bif decide (s17 < (sp.fields.length:Int)) then
 (idx sp.fields s17).bind fun y20=>
 (idx y16 s17).bind fun y21=>
 (bif (y21.arity != (y20.sorts.length:Int)) then
 some (true)
 else
 (m114 F y4 y21).bind fun y22=>
 bif (!y22) then
 some (true)
 else
 (m116 F m.scope y20.sorts).bind fun y23=>
 (m115 F y21 y23).bind fun y24=>
 some ((!y24))).bind fun p25=>
 bif p25 then
 some (Out.ret false)
 else
 (bif (!y20.var) then
 (idx m.states 0).bind fun y27=>
 (idx y27 s17).bind fun y28=>
 (m117 F y21 y28).bind fun y29=>
 some ((!y29))
 else
 some (false)).bind fun p30=>
 bif p30 then
 some (Out.ret false)
 else
 some (Out.next (w64 (s17 + 1)))
 else
 some (Out.exit (())):Option (Out (Int) (Unit) Bool))) F (0)).bind fun (o34:(Unit) ⊕ Bool)=>(match o34 with
 | .inl x32=>
 some (Out.next (w64 (s13 + 1)))
 | .inr r35=>some (Out.ret r35))
 else
 some (Out.exit (())):Option (Out (Int) (Unit) Bool))) F (0)).bind fun (o38:(Unit) ⊕ Bool)=>(match o38 with
 | .inl x36=>
 some true
 | .inr r39=>some r39)
 | .inr r40=>some r40)
theorem c66 (F:Nat) (sp:Spec) (m:Model) (res:Bool) (hm:m66 F sp m = some res) (h:List ABlk):ACall Tryz.prog 66 [sp.av,m.av] h (.ret (AV.bool res)) h:=by
 unfold m66 at hm
 refine ACall.mir 0 Tryz.func66 rfl (.cons (Spec.apart _) (.cons (Model.apart _) .nil)) (nlst rfl) ?_ h
 show SX _ _ _ 119 _ _ _ _
 refine SX.seq (SX.rr rfl ?_)
 refine SX.seq (SX.seq ?_)
 obtain ⟨y1,hy1,hm⟩:=bindE hm
 obtain ⟨p2,hj,hm⟩:=bindE hm
 refine SX.join ([(2,AV.ptr 0 0 0 0),(3,AV.ptr 1 0 0 0),(39,AV.bool p2)]) ([ABlk.row 0 4 [sp.av],ABlk.row 0 4 [m.av]]) (SX.region ?_) ?_
 ·refine SOps.rn 3 rfl (SOps.call rfl rfl rfl rfl rfl (c111 F sp m.scope y1 hy1 _) rdNone (SOps.rn 1 rfl ?_))
  refine SOps.splitM rfl rfl rfl rdNone hj (fun hj=>?_) (fun hj=>?_)
  ·refine SOps.re rfl ?_
   obtain rfl:=oj hj
   exact ⟨rfl,CutTo.sr rfl⟩
  ·refine SOps.rn 2 rfl (SOps.light rfl rfl (lightV_len (f:=(fun l=>AV.vw 2 (l.map Rel.av))) (xs:=m.states) rfl rfl Tryz.underlying35 rfl) rdNone (SOps.rn 5 rfl ?_))
   refine SOps.splitM rfl rfl rfl rdNone hj (fun hj=>?_) (fun hj=>?_)
   ·refine SOps.re rfl ?_
    obtain rfl:=oj hj
    exact ⟨rfl,CutTo.sr rfl⟩
   ·refine SOps.rn 4 rfl ?_
    refine SOps.splitM rfl rfl rfl rdNone hj (fun hj=>?_) (fun hj=>?_)
    ·refine SOps.re rfl ?_
     obtain rfl:=oj hj
     exact ⟨rfl,CutTo.sr rfl⟩
    ·refine SOps.rn 4 rfl (SOps.light rfl rfl (lightV_len (f:=(fun l=>AV.vw 2 (l.map Rel.av))) (xs:=m.states) rfl rfl Tryz.underlying35 rfl) rdNone (SOps.re rfl ?_))
     obtain rfl:=oj hj
     exact ⟨rfl,CutTo.sr rfl⟩
 refine SX.condM rfl rfl hm (fun ht hm=>?_) (fun ht hm=>?_)
 ·refine SX.seq (SX.rr rfl (SX.rt ?_))
  obtain rfl:=oj hm
  exact RetQ.mk (vs:=[AV.bool false]) rfl (.apart .bool)
 ·refine SX.sk (SX.seq (SX.rn 2 rfl ?_))
  obtain ⟨y4,hy4,hm⟩:=bindE hm
  refine SOps.call rfl rfl rfl rfl rfl (c112 F m.scope y4 hy4 _) rdNone (SOps.re rfl ?_)
  refine SX.seq (SX.seq ?_)
  refine SX.rn 2 rfl (SOps.light rfl rfl (lightV_len (f:=Field.av) (xs:=sp.fields) rfl rfl Tryz.underlying23 rfl) rdNone (SOps.re rfl ?_))
  obtain ⟨o12,ho12,hm⟩:=bindE hm
  refine SX.forget (al':=[(2,AV.ptr 0 0 0 0),(3,AV.ptr 1 0 0 0),(5,AV.int .i64 y4),(44,AV.vw 3 (sp.fields.map Field.av)),(45,AV.int .i64 ((sp.fields.length:Int))),(46,AV.int .i64 0)]) (leA_of rfl) ?_
  refine SX.iter (fun (s5:Int) (g6:Unit)=>[(2,AV.ptr 0 0 0 0),(3,AV.ptr 1 0 0 0),(5,AV.int .i64 y4),(44,AV.vw 3 (sp.fields.map Field.av)),(45,AV.int .i64 ((sp.fields.length:Int))),(46,AV.int .i64 s5)]) (fun (s5:Int) (g6:Unit)=>[ABlk.row 0 4 [sp.av],ABlk.row 0 4 [m.av]]) (fun (x10:Unit) (g11:Unit)=>[(2,AV.ptr 0 0 0 0),(3,AV.ptr 1 0 0 0),(5,AV.int .i64 y4)]) (fun (x10:Unit) (g11:Unit)=>[ABlk.row 0 4 [sp.av],ABlk.row 0 4 [m.av]]) (fun r al df h=>Ret Tryz.prog Tryz.f66 (AV.bool r) al df h) () ho12 rfl rfl ?_ ?_ ?_
  ·intro s5 g6 out7 hb
   refine SX.seq (SX.rr rfl (SX.seq ?_))
   refine SX.condM rfl rfl hb (fun ht hb=>?_) (fun ht hb=>?_)
   ·refine SX.sk (SX.seq (SX.block (SX.seq (SX.region ?_))))
    obtain ⟨y8,hy8,hb⟩:=bindE hb
    refine SOps.light rfl rfl (lightV_idx (f:=Field.av) (xs:=sp.fields) rfl rfl Tryz.underlying23 rfl hy8) rdNone (SOps.re rfl (SX.seq (SX.rn 2 rfl ?_)))
    obtain ⟨y9,hy9,hb⟩:=bindE hb
    refine SOps.call rfl rfl rfl rfl rfl (c113 F sp y8 y9 hy9 _) rdNone (SOps.re rfl ?_)
    refine SX.condM rfl rfl hb (fun ht hb=>?_) (fun ht hb=>?_)
    ·refine SX.seq (SX.rr rfl (SX.rt ?_))
     exact eI _ (aI (ojs hb) (Ret.mk (vs:=[AV.bool false]) rfl (.apart .bool)))
    ·refine SX.sk (SX.rr rfl ?_)
     exact eI _ (eI () (aI (ojs hb) (CutTo.drop [_] (leA_of rfl) (Nat.le_of_ble_eq_true rfl) (aI (Nat.le_of_ble_eq_true rfl) (aI (Nat.le_of_ble_eq_true rfl) (aI trivial (aI (belowL_map fun _=>(Field.belowN _ _)) (aI trivial (aI trivial trivial)))))) (aI (aI (Spec.belowN _ _) trivial) (aI (aI (Model.belowN _ _) trivial) trivial)))))
   ·refine SX.ex ?_
    exact aI rfl (eI _ (eI () (aI (ojs hb) (CutTo.sr rfl))))
  ·intro x10 g11 he
   subst he
   refine SX.seq (SX.seq ?_)
   refine SX.rn 2 rfl (SOps.light rfl rfl (lightV_len (f:=(fun l=>AV.vw 2 (l.map Rel.av))) (xs:=m.states) rfl rfl Tryz.underlying35 rfl) rdNone (SOps.re rfl ?_))
   obtain ⟨o38,ho38,hm⟩:=bindE hm
   refine SX.forget (al':=[(2,AV.ptr 0 0 0 0),(3,AV.ptr 1 0 0 0),(5,AV.int .i64 y4),(56,AV.vw 1 (m.states.map (fun l=>AV.vw 2 (l.map Rel.av)))),(57,AV.int .i64 ((m.states.length:Int))),(58,AV.int .i64 0)]) (leA_of rfl) ?_
   refine SX.iter (fun (s13:Int) (g14:Unit)=>[(2,AV.ptr 0 0 0 0),(3,AV.ptr 1 0 0 0),(5,AV.int .i64 y4),(56,AV.vw 1 (m.states.map (fun l=>AV.vw 2 (l.map Rel.av)))),(57,AV.int .i64 ((m.states.length:Int))),(58,AV.int .i64 s13)]) (fun (s13:Int) (g14:Unit)=>[ABlk.row 0 4 [sp.av],ABlk.row 0 4 [m.av]]) (fun (x36:Unit) (g37:Unit)=>[]) (fun (x36:Unit) (g37:Unit)=>[ABlk.row 0 4 [sp.av],ABlk.row 0 4 [m.av]]) (fun r al df h=>Ret Tryz.prog Tryz.f66 (AV.bool r) al df h) () ho38 rfl rfl ?_ ?_ ?_
   ·intro s13 g14 out15 hb
    refine SX.seq (SX.rr rfl (SX.seq ?_))
    refine SX.condM rfl rfl hb (fun ht hb=>?_) (fun ht hb=>?_)
    ·refine SX.sk (SX.seq (SX.block (SX.seq (SX.region ?_))))
     obtain ⟨y16,hy16,hb⟩:=bindE hb
     refine SOps.light rfl rfl (lightV_idx (f:=(fun l=>AV.vw 2 (l.map Rel.av))) (xs:=m.states) rfl rfl Tryz.underlying35 rfl hy16) rdNone (SOps.re rfl ?_)
     refine SX.seq (SX.seq ?_)
     refine SX.rn 1 rfl (SOps.light rfl rfl (lightV_len (f:=Rel.av) (xs:=y16) rfl rfl Tryz.underlying78 rfl) rdNone (SOps.rn 2 rfl (SOps.light rfl rfl (lightV_len (f:=Field.av) (xs:=sp.fields) rfl rfl Tryz.underlying23 rfl) rdNone (SOps.re rfl ?_))))
     refine SX.condM rfl rfl hb (fun ht hb=>?_) (fun ht hb=>?_)
     ·refine SX.seq (SX.rr rfl (SX.rt ?_))
      exact eI _ (aI (ojs hb) (Ret.mk (vs:=[AV.bool false]) rfl (.apart .bool)))
     ·refine SX.sk (SX.seq (SX.rn 2 rfl (SOps.light rfl rfl (lightV_len (f:=Field.av) (xs:=sp.fields) rfl rfl Tryz.underlying23 rfl) rdNone (SOps.re rfl ?_))))
      obtain ⟨o34,ho34,hb⟩:=bindE hb
      refine SX.forget (al':=[(2,AV.ptr 0 0 0 0),(3,AV.ptr 1 0 0 0),(5,AV.int .i64 y4),(9,AV.vw 2 (y16.map Rel.av)),(56,AV.vw 1 (m.states.map (fun l=>AV.vw 2 (l.map Rel.av)))),(57,AV.int .i64 ((m.states.length:Int))),(58,AV.int .i64 s13),(69,AV.vw 3 (sp.fields.map Field.av)),(70,AV.int .i64 ((sp.fields.length:Int))),(71,AV.int .i64 0)]) (leA_of rfl) ?_
      refine SX.iter (fun (s17:Int) (g18:Unit)=>[(2,AV.ptr 0 0 0 0),(3,AV.ptr 1 0 0 0),(5,AV.int .i64 y4),(9,AV.vw 2 (y16.map Rel.av)),(56,AV.vw 1 (m.states.map (fun l=>AV.vw 2 (l.map Rel.av)))),(57,AV.int .i64 ((m.states.length:Int))),(58,AV.int .i64 s13),(69,AV.vw 3 (sp.fields.map Field.av)),(70,AV.int .i64 ((sp.fields.length:Int))),(71,AV.int .i64 s17)]) (fun (s17:Int) (g18:Unit)=>[ABlk.row 0 4 [sp.av],ABlk.row 0 4 [m.av]]) (fun (x32:Unit) (g33:Unit)=>[(2,AV.ptr 0 0 0 0),(3,AV.ptr 1 0 0 0),(5,AV.int .i64 y4),(56,AV.vw 1 (m.states.map (fun l=>AV.vw 2 (l.map Rel.av)))),(57,AV.int .i64 ((m.states.length:Int))),(58,AV.int .i64 s13)]) (fun (x32:Unit) (g33:Unit)=>[ABlk.row 0 4 [sp.av],ABlk.row 0 4 [m.av]]) (fun r al df h=>Ret Tryz.prog Tryz.f66 (AV.bool r) al df h) () ho34 rfl rfl ?_ ?_ ?_
      ·intro s17 g18 out19 hb
       refine SX.seq (SX.rr rfl (SX.seq ?_))
       refine SX.condM rfl rfl hb (fun ht hb=>?_) (fun ht hb=>?_)
       ·refine SX.sk (SX.seq (SX.block (SX.seq (SX.rn 1 rfl ?_))))
        obtain ⟨y20,hy20,hb⟩:=bindE hb
        refine SOps.light rfl rfl (lightV_idx (f:=Field.av) (xs:=sp.fields) rfl rfl Tryz.underlying23 rfl hy20) rdNone (SOps.re rfl (SX.seq (SX.rn 2 rfl ?_)))
        obtain ⟨y21,hy21,hb⟩:=bindE hb
        refine SOps.light rfl rfl (lightV_idx (f:=Rel.av) (xs:=y16) rfl rfl Tryz.underlying78 rfl hy21) rdNone (SOps.re rfl ?_)
        refine SX.seq (SX.seq ?_)
        obtain ⟨p25,hj,hb⟩:=bindE hb
        refine SX.join ([(2,AV.ptr 0 0 0 0),(3,AV.ptr 1 0 0 0),(5,AV.int .i64 y4),(9,AV.vw 2 (y16.map Rel.av)),(10,AV.int .i64 s17),(11,AV.ptr 2 0 0 0),(12,AV.ptr 3 0 0 0),(56,AV.vw 1 (m.states.map (fun l=>AV.vw 2 (l.map Rel.av)))),(57,AV.int .i64 ((m.states.length:Int))),(58,AV.int .i64 s13),(69,AV.vw 3 (sp.fields.map Field.av)),(70,AV.int .i64 ((sp.fields.length:Int))),(71,AV.int .i64 s17),(101,AV.bool p25)]) ([ABlk.row 0 4 [sp.av],ABlk.row 0 4 [m.av],ABlk.row 0 3 [y20.av],ABlk.row 0 2 [y21.av]]) (SX.draw follows_mixed rfl rdNone ?_) ?_
        ·refine PO.rn 4 rfl (PO.light rfl rfl (lightV_len (f:=(AV.int .i64)) (xs:=y20.sorts) rfl rfl Tryz.underlying28 rfl) (PO.rn 1 rfl ?_))
         refine PO.splitM rfl rfl rfl hj (fun hj=>?_) (fun hj=>?_)
         ·refine PO.re rfl ?_
          obtain rfl:=oj hj
          exact ⟨rfl,CutTo.sr rfl⟩
         ·refine PO.rn 2 rfl ?_
          obtain ⟨y22,hy22,hj⟩:=bindE hj
          refine PO.call rfl rfl rfl rfl rfl (c114 F y4 y21 y22 hy22 _) (PO.rn 2 rfl ?_)
          refine PO.splitM rfl rfl rfl hj (fun hj=>?_) (fun hj=>?_)
          ·refine PO.re rfl ?_
           obtain rfl:=oj hj
           exact ⟨rfl,CutTo.sr rfl⟩
          ·refine PO.rn 5 rfl ?_
           obtain ⟨y23,hy23,hj⟩:=bindE hj
           refine PO.call rfl rfl rfl rfl rfl (c116 F m.scope y20.sorts y23 hy23 _) ?_
           obtain ⟨y24,hy24,hj⟩:=bindE hj
           refine PO.call rfl rfl rfl rfl rfl (c115 F y21 y23 y24 hy24 _) (PO.re rfl ?_)
           obtain rfl:=oj hj
           exact ⟨rfl,CutTo.sr rfl⟩
        refine SX.condM rfl rfl hb (fun ht hb=>?_) (fun ht hb=>?_)
        ·refine SX.seq (SX.rr rfl (SX.rt ?_))
         exact eI _ (aI (ojs hb) (Ret.mk (vs:=[AV.bool false]) rfl (.apart .bool)))
        ·refine SX.sk (SX.seq ?_)
         obtain ⟨p30,hj,hb⟩:=bindE hb
         refine SX.join ([(2,AV.ptr 0 0 0 0),(3,AV.ptr 1 0 0 0),(5,AV.int .i64 y4),(9,AV.vw 2 (y16.map Rel.av)),(56,AV.vw 1 (m.states.map (fun l=>AV.vw 2 (l.map Rel.av)))),(57,AV.int .i64 ((m.states.length:Int))),(58,AV.int .i64 s13),(69,AV.vw 3 (sp.fields.map Field.av)),(70,AV.int .i64 ((sp.fields.length:Int))),(71,AV.int .i64 s17),(116,AV.bool p30)]) ([ABlk.row 0 4 [sp.av],ABlk.row 0 4 [m.av],ABlk.row 0 3 [y20.av],ABlk.row 0 2 [y21.av]]) (SX.draw follows_mixed rfl rdNone ?_) ?_
         ·refine PO.rn 3 rfl ?_
          refine PO.splitM rfl rfl rfl hj (fun hj=>?_) (fun hj=>?_)
          ·refine PO.rn 3 rfl ?_
           obtain ⟨y27,hy27,hj⟩:=bindE hj
           refine PO.light rfl rfl (lightV_idx (f:=(fun l=>AV.vw 2 (l.map Rel.av))) (xs:=m.states) rfl rfl Tryz.underlying35 rfl hy27) (PO.rn 2 rfl ?_)
           obtain ⟨y28,hy28,hj⟩:=bindE hj
           refine PO.light rfl rfl (lightV_idx (f:=Rel.av) (xs:=y27) rfl rfl Tryz.underlying78 rfl hy28) (PO.rn 1 rfl ?_)
           obtain ⟨y29,hy29,hj⟩:=bindE hj
           refine PO.call rfl rfl rfl rfl rfl (c117 F y21 y28 y29 hy29 _) (PO.re rfl ?_)
           obtain rfl:=oj hj
           exact ⟨rfl,CutTo.sr rfl⟩
          ·refine PO.re rfl ?_
           obtain rfl:=oj hj
           exact ⟨rfl,CutTo.sr rfl⟩
         refine SX.condM rfl rfl hb (fun ht hb=>?_) (fun ht hb=>?_)
         ·refine SX.seq (SX.rr rfl (SX.rt ?_))
          exact eI _ (aI (ojs hb) (Ret.mk (vs:=[AV.bool false]) rfl (.apart .bool)))
         ·refine SX.sk (SX.rr rfl ?_)
          exact eI _ (eI () (aI (ojs hb) (CutTo.drop [_,_] (leA_of rfl) (Nat.le_of_ble_eq_true rfl) (aI (Nat.le_of_ble_eq_true rfl) (aI (Nat.le_of_ble_eq_true rfl) (aI trivial (aI (belowL_map fun _=>(Rel.belowN _ _)) (aI (belowL_map fun _=>(belowL_map fun _=>(Rel.belowN _ _))) (aI trivial (aI trivial (aI (belowL_map fun _=>(Field.belowN _ _)) (aI trivial (aI trivial trivial)))))))))) (aI (aI (Spec.belowN _ _) trivial) (aI (aI (Model.belowN _ _) trivial) trivial)))))
       ·refine SX.ex ?_
        exact aI rfl (eI _ (eI () (aI (ojs hb) (CutTo.sr rfl))))
      ·intro x32 g33 he
       subst he
       refine SX.rr rfl ?_
       exact eI _ (eI () (aI (ojs hb) (CutTo.sr rfl)))
      ·intro r al' df' h' hr hq
       subst hr
       exact eI _ (aI (ojs hb) hq)
    ·refine SX.ex ?_
     exact aI rfl (eI _ (eI () (aI (ojs hb) (CutTo.sr rfl))))
   ·intro x36 g37 he
    subst he
    refine SX.seq (SX.rr rfl (SX.rt ?_))
    obtain rfl:=oj hm
    exact RetQ.mk (vs:=[AV.bool true]) rfl (.apart .bool)
   ·intro r al' df' h' hr hq
    subst hr
    obtain rfl:=oj hm
    exact hq
  ·intro r al' df' h' hr hq
   subst hr
   obtain rfl:=oj hm
   exact hq
end Go.AL
namespace Go.AL
open Go
set_option maxRecDepth 4000
theorem ScA.take {l:List Int} (h:ScA l) (k:Nat):ScA (l.take k):=⟨by have:=h.1; simp; omega,fun a ha=>h.2 a (List.mem_of_mem_take ha)⟩
theorem e173 (l:List Int) (h:ScA l):Ev (fun r=>r = l.sum) (fun F=>m173 F l):=by
 have h1:=h.1
 unfold m173
 refine Ev.bindS (fun r=>r = l.sum) (fun _=>False) ?_ (fun x hx=>Ev.pure hx) (fun _ h=>h.elim)
 refine Ev.loop (T:=Int) l.length (fun i t=>(t,(i:Int))) (fun i t=>t = (l.take i).sum) rfl (by simp) (fun i t hi ht=>Ev.dt (Int.ofNat_lt.2 hi) ?_) (fun t ht=>Ev.df (Int.lt_irrefl _) (Ev.pure (by show t = _; rw [ht,List.take_length])))
 refine Ev.bind (Ev.idxN hi) (fun y hy=>Ev.pure ⟨_,by rw [w64_succ (by omega)],?_⟩)
 have a:=sum_rng h i
 have b:=h.2 y (List.mem_of_getElem? hy)
 rw [sum_take_succ hy]
 show w64 (t + y) = _
 rw [ht,w64_id (by omega) (by omega)]
theorem e112 (sc:Scope) (h:ScA sc.atoms):Ev (fun r=>r = sc.atoms.sum) (fun F=>m112 F sc):=by
 unfold m112
 exact Ev.bind (e173 _ h) (fun y hy=>Ev.pure hy)
theorem e172 (n a b:Int):Ev (fun r=>r = true↔a≤n∧n≤b) (fun F=>m172 F n a b):=by
 unfold m172
 refine Ev.bind (P:=fun p=>p = true↔a≤n∧n≤b) ?_ (fun p hp=>Ev.pure hp)
 exact Ev.dec (fun h1=>Ev.pure ⟨fun h=>⟨h1,of_decide_eq_true h⟩,fun h=>decide_eq_true h.2⟩) (fun h1=>Ev.pure ⟨fun h=>(by cases h),fun h=>(h1 h.1).elim⟩)
theorem e111 (sp:Spec) (sc:Scope) (hs:sp.sorts.length≤LIM) (hsc:sc.atoms.length≤LIM):Ev (fun r=>r = true↔ScOk sp sc) (fun F=>m111 F sp sc):=by
 simp only [LIM] at hs hsc
 unfold m111
 refine Ev.bind (P:=fun p=>p = false↔sc.atoms.length = sp.sorts.length∧sp.sorts.length≤4∧1≤sc.steps∧sc.steps≤4) ?_ (fun p hp=>?_)
 ·refine Ev.dec (fun h2=>Ev.pure ⟨fun h=>(by cases h),fun h=>by omega⟩) (fun h2=>Ev.ite (fun h1=>Ev.pure ⟨fun h=>(by cases h),fun h=>?_⟩) (fun h1=>?_))
  ·rw [h.1] at h1; simp at h1
  ·simp at h1
   refine Ev.bind (e172 sc.steps 1 4) (fun y1 hy1=>Ev.pure ⟨fun h=>?_,fun h=>?_⟩)
   ·have:=hy1.1 (bnot_t h)
    omega
   ·rw [hy1.2 (by omega)]; rfl
 refine Ev.ite (fun h1=>Ev.pure ⟨fun h=>(by cases h),fun h=>?_⟩) (fun hpf=>?_)
 ·have:=h.sca.1
  have e:=h.len
  have:=hp.2 ⟨h.len,by omega,h.steps⟩
  rw [h1] at this; cases this
 obtain ⟨c1,c2,c3,c4⟩:=hp.1 hpf
 refine Ev.bindS (fun (_:Unit)=>∀ a ∈ sc.atoms,1≤a∧a≤5) (fun r=>r = false∧¬ ScOk sp sc) ?_ (fun _ hx=>?_) (fun r hr=>Ev.pure ⟨fun h=>(by rw [hr.1] at h; cases h),fun h=>(hr.2 h).elim⟩)
 ·refine Ev.each (n:=sc.atoms.length) (by omega) (fun i=>∀ j,j < i→∀ a,sc.atoms[j]? = some a→1≤a∧a≤5) (fun j hj=>by omega) (fun i hi hA=>?_) allOf
  obtain ⟨a,ha⟩:=getE hi
  refine Ev.ixb ha (Ev.bind (e172 a 1 5) (fun y hy=>Ev.ite (fun h1=>Ev.pure ⟨rfl,fun h=>?_⟩) (fun hpf=>Ev.pure ⟨rfl,stepA hA ha (hy.1 (bnot_t hpf))⟩)))
  have:=hy.2 (h.sca.2 a (List.mem_of_getElem? ha))
  rw [this] at h1; cases h1
 have hA:ScA sc.atoms:=⟨by omega,hx⟩
 refine Ev.bind (e112 sc hA) (fun y hy=>Ev.pure ⟨fun h=>⟨c1,hA,⟨c3,c4⟩,by rw [← hy]; exact of_decide_eq_true h⟩,fun h=>decide_eq_true ?_⟩)
 rw [hy]; exact h.sum
theorem e232 {W:Int→Prop} (l:List Int) (hl:l.length≤LIM) (f:Nat→Int→Option Bool) (hf:∀ x ∈ l,Ev (fun b=>b = true↔W x) (fun F=>f F x)):Ev (fun r=>0≤r↔∃ x ∈ l,W x) (fun F=>m232 F l (f F)):=by
 simp only [LIM] at hl
 unfold m232
 refine Ev.bindS (fun (_:Unit)=>∀ x ∈ l,¬ W x) (fun (r:Int)=>0≤r∧∃ x ∈ l,W x) ?_ (fun _ hx=>Ev.pure ⟨fun h=>(by omega),fun ⟨x,h1,h2⟩=>(hx x h1 h2).elim⟩) (fun r hr=>Ev.pure ⟨fun _=>hr.2,fun _=>hr.1⟩)
 refine Ev.each (n:=l.length) (by omega) (fun i=>∀ j,j < i→∀ x,l[j]? = some x→¬ W x) (fun j hj=>by omega) (fun i hi hA=>?_) allOf
 obtain ⟨x,hx⟩:=getE hi
 have hm:=List.mem_of_getElem? hx
 refine Ev.ixb hx (Ev.bind (hf x hm) (fun b hb=>Ev.ite (fun h1=>Ev.pure ⟨Int.natCast_nonneg i,x,hm,hb.1 h1⟩) (fun h1=>Ev.pure ⟨rfl,stepA hA hx (fun hw=>?_)⟩)))
 rw [hb.2 hw] at h1; cases h1
theorem e174 {W:Int→Prop} (l:List Int) (hl:l.length≤LIM) (f:Nat→Int→Option Bool) (hf:∀ x ∈ l,Ev (fun b=>b = true↔W x) (fun F=>f F x)):Ev (fun r=>r = true↔∃ x ∈ l,W x) (fun F=>m174 F l (f F)):=by
 unfold m174
 exact Ev.bind (e232 l hl f hf) (fun y hy=>Ev.pure ⟨fun h=>hy.1 (of_decide_eq_true h),fun h=>decide_eq_true (hy.2 h)⟩)
theorem e175 (s:Int) (sp:Spec):Ev (fun b=>b = true↔(s < 0 ∨ (sp.sorts.length:Int)≤s)) (fun F=>m175 F s sp):=by
 unfold m175
 refine Ev.bind (P:=fun b=>b = true↔(s < 0 ∨ (sp.sorts.length:Int)≤s)) ?_ (fun p hp=>Ev.pure hp)
 exact Ev.dec (fun h1=>Ev.pure ⟨fun _=>.inl h1,fun _=>rfl⟩) (fun h1=>Ev.pure ⟨fun h=>.inr (of_decide_eq_true h),fun h=>decide_eq_true (by omega)⟩)
theorem e113 (sp:Spec) (f:Field) (hf:FieldOk sp f):Ev (fun r=>r = true) (fun F=>m113 F sp f):=by
 obtain ⟨h1,h2,h3⟩:=hf
 unfold m113
 refine Ev.bind (P:=fun p=>p = false) (Ev.df (by omega) (Ev.pure (decide_eq_false (by omega)))) (fun p hp=>Ev.if hp ?_)
 refine Ev.bind (e174 f.sorts (by simp only [LIM]; omega) (fun F z0=>m175 F z0 sp) (fun x _=>e175 x sp)) (fun y hy=>Ev.pure ?_)
 have:y = false:=by
  cases hb:y with
  | false=>rfl
  | true=>
   obtain ⟨x,hx,h⟩:=hy.1 hb
   have:=h3 x hx
   omega
 rw [this]; rfl
theorem e176 (n:Int) (h0:0≤n) (h1:n≤20) (k:Nat) (hk:k≤3):Ev (fun r=>r = n ^ k) (fun F=>m176 F n k):=by
 unfold m176
 refine Ev.bindS (fun r=>r = n ^ k) (fun _=>False) ?_ (fun x hx=>Ev.pure hx) (fun _ h=>h.elim)
 refine Ev.loop (T:=Int) k (fun i t=>(t,(i:Int))) (fun i t=>t = n ^ i) rfl (Int.pow_zero _).symm (fun i t hi ht=>Ev.dt (Int.ofNat_lt.2 hi) ?_) (fun t ht=>Ev.df (Int.lt_irrefl _) (Ev.pure ht))
 refine Ev.pure ⟨_,by rw [w64_succ (by omega)],?_⟩
 have a:=pow_rng3 h0 h1 (k:=i.succ) (by omega)
 show w64 (t * n) = _
 rw [ht,← Int.pow_succ,w64_id (by omega) (by omega)]
theorem e114 (n:Int) (r:Rel) (hl:r.tuples.length≤LIM):Ev (fun b=>b = true↔RelOk n r) (fun F=>m114 F n r):=by
 simp only [LIM] at hl
 unfold m114
 refine Ev.bind (P:=fun p=>p = false↔0≤n∧n≤12∧1≤r.arity∧r.arity≤3) ?_ (fun p hp=>?_)
 ·refine Ev.dec (fun _=>Ev.pure ⟨fun h=>(by cases h),fun h=>by omega⟩) (fun h1=>Ev.dec (fun _=>Ev.pure ⟨fun h=>(by cases h),fun h=>by omega⟩) (fun h2=>Ev.dec (fun _=>Ev.pure ⟨fun h=>(by cases h),fun h=>by omega⟩) (fun h3=>Ev.pure ⟨fun h4=>?_,fun h4=>decide_eq_false (by omega)⟩)))
  have:=of_decide_eq_false h4
  omega
 refine Ev.ite (fun h1=>Ev.pure ⟨fun h=>(by cases h),fun h=>?_⟩) (fun hpf=>?_)
 ·have:=hp.2 ⟨h.n0,h.n1,h.a0,h.a1⟩
  rw [h1] at this; cases this
 obtain ⟨c1,c2,c3,c4⟩:=hp.1 hpf
 refine Ev.bindS (fun (_:Unit)=>∀ j,j < r.tuples.length→∀ t,r.tuples[j]? = some t→TupAt n r j t) (fun b=>b = false∧¬ RelOk n r) ?_ (fun _ hd=>Ev.pure ⟨fun _=>⟨c1,c2,c3,c4,allOf fun j hj t ht=>(hd j hj t ht).1,sorted_adj fun j x y hx hy=>?_⟩,fun _=>rfl⟩) (fun r hr=>Ev.pure ⟨fun h=>(by rw [hr.1] at h; cases h),fun h=>(hr.2 h).elim⟩)
 ·refine Ev.loop (T:=Int) r.tuples.length (fun i t=>(t,(i:Int))) (fun i t=>(∀ j,j < i→∀ t,r.tuples[j]? = some t→TupAt n r j t)∧(i = 0→t = -1)∧(0 < i→r.tuples[i - 1]? = some t)) rfl ⟨fun j hj=>by omega,fun _=>rfl,fun h=>by omega⟩ (fun i prev hi hA=>Ev.dt (Int.ofNat_lt.2 hi) ?_) (fun t ht=>Ev.df (Int.lt_irrefl _) (Ev.pure ht.1))
  obtain ⟨hA1,hA2,hA3⟩:=hA
  obtain ⟨t,ht⟩:=getE hi
  refine Ev.ixb ht (Ev.bind (P:=fun p=>p = false↔TupAt n r i t) ?_ (fun p hp=>?_))
  ·refine Ev.dec (fun h0=>Ev.pure ⟨fun h=>(by cases h),fun h=>?_⟩) (fun h0=>?_)
   ·have h0:t≤prev:=h0
    by_cases e:i = 0
    ·have:=hA2 e; have:=h.1; omega
    ·have:=h.2 prev (by omega) (hA3 (by omega)); omega
   ·have h0:¬ t≤prev:=h0
    have ea:r.arity = (r.arity.toNat:Int):=by omega
    rw [ea]
    refine Ev.bind (e176 n c1 (by omega) r.arity.toNat (by omega)) (fun y hy=>?_)
    refine Ev.pure ⟨fun h=>?_,fun h=>decide_eq_false (by have:=h.1; omega)⟩
    have h:=of_decide_eq_false h
    by_cases e:i = 0
    ·have:=hA2 e
     exact ⟨⟨by omega,by omega⟩,fun u h0=>by omega⟩
    ·have hp:=hA3 (by omega)
     have:=(hA1 (i - 1) (by omega) prev hp).1
     refine ⟨⟨by omega,by omega⟩,fun u _ hu=>?_⟩
     rw [hp] at hu; cases hu; omega
  ·refine Ev.ite (fun h1=>Ev.pure ⟨rfl,fun h=>?_⟩) (fun hpf=>Ev.pure ⟨t,by rw [w64_succ (by omega)],stepI hA1 ht (hp.1 hpf),fun h=>(by omega),fun _=>by simpa using ht⟩)
   have:=hp.2 (h.tupAt ht)
   rw [h1] at this; cases this
 ·exact (hd (j + 1) (getLt hy) y hy).2 x (by omega) hx
def fullL (sc:Scope):List Int→Int→List Int
 | [],i=>[i]
 | c :: cs,i=>(List.range ((sc.atoms[c.toNat]?).getD 0).toNat).flatMap fun (j:Nat)=>fullL sc cs (i * sc.atoms.sum + (fst sc.atoms c.toNat + (j:Int)))
theorem range_flat_len {f:Nat→List Int} {B:Nat} (h:∀ j,(f j).length≤B):∀ k,((List.range k).flatMap f).length≤k * B
 | 0=>by simp
 | k + 1=>by
  have:=range_flat_len h k
  have:=h k
  rw [List.range_succ,List.flatMap_append,List.length_append,Nat.succ_mul]
  simp only [List.flatMap_cons,List.flatMap_nil,List.append_nil]
  omega
theorem atom_le {l:List Int} (h:ScA l) (k:Nat):((l[k]?).getD 0).toNat≤5:=by
 cases hx:l[k]? with
 | none=>simp
 | some x=>have:=h.2 x (List.mem_of_getElem? hx); simp; omega
theorem fullL_len {sc:Scope} (h:ScA sc.atoms):∀ (l:List Int) (i:Int),(fullL sc l i).length≤5 ^ l.length
 | [],i=>by simp [fullL]
 | c :: cs,i=>by
  have h1:=range_flat_len (f:=fun (j:Nat)=>fullL sc cs (i * sc.atoms.sum + (fst sc.atoms c.toNat + (j:Int)))) (fun j=>fullL_len h cs _) ((sc.atoms[c.toNat]?).getD 0).toNat
  have h2:=atom_le h c.toNat
  simp only [fullL,List.length_cons,Nat.pow_succ]
  have h3:=Nat.mul_le_mul_right (5 ^ cs.length) h2
  omega
theorem fullL_append (sc:Scope) (c:Int):∀ (l:List Int) (i:Int),fullL sc (l ++ [c]) i = (fullL sc l i).flatMap fun j=>fullL sc [c] j
 | [],i=>by simp [fullL]
 | a :: l,i=>by
  simp only [List.cons_append,fullL]
  rw [List.flatMap_assoc]
  congr 1
  funext j
  have:=fullL_append sc c l (i * sc.atoms.sum + (fst sc.atoms a.toNat + (j:Int)))
  rw [this]
  rfl
theorem mem_full1 {sc:Scope} {c j t:Int}:t ∈ fullL sc [c] j↔∃ x:Nat,x < ((sc.atoms[c.toNat]?).getD 0).toNat∧t = j * sc.atoms.sum + (fst sc.atoms c.toNat + (x:Int)):=by
 simp only [fullL,List.mem_flatMap,List.mem_range,List.mem_singleton]
theorem typed_full {sc:Scope} (h:ScA sc.atoms) (hn1:1≤sc.atoms.sum):∀ (rl:List Int) (t:Int),(∀ s ∈ rl,0≤s∧s < sc.atoms.length)→(typedR sc rl t↔t ∈ fullL sc rl.reverse 0)
 | [],t,_=>by simp [typedR,fullL]
 | c :: cs,t,hs=>by
  have ih:=fun t=>typed_full h hn1 cs t (fun s hs'=>hs s (by simp [hs']))
  have hc:=hs c (by simp)
  obtain ⟨a,ha⟩:=getE (l:=sc.atoms) (i:=c.toNat) (by omega)
  have har:=h.2 a (List.mem_of_getElem? ha)
  have hf:=fst_succ ha
  have hf0:=fst_rng h c.toNat
  have hf1:fst sc.atoms (c.toNat + 1)≤sc.atoms.sum:=by
   rw [← fst_len]; exact fst_mono h (by omega)
  rw [List.reverse_cons,fullL_append,List.mem_flatMap]
  simp only [typedR,mem_full1,ha,Option.getD_some]
  constructor
  ·rintro ⟨⟨h1,h2⟩,h3⟩
   refine ⟨t / sc.atoms.sum,(ih _).1 h3,(t % sc.atoms.sum - fst sc.atoms c.toNat).toNat,by omega,?_⟩
   have:=Int.mul_ediv_add_emod t sc.atoms.sum
   rw [Int.mul_comm] at this
   omega
  ·rintro ⟨j,hj,x,hx,ht⟩
   have e:t = (fst sc.atoms c.toNat + (x:Int)) + j * sc.atoms.sum:=by omega
   have e1:t % sc.atoms.sum = fst sc.atoms c.toNat + (x:Int):=by
    rw [e,Int.add_mul_emod_self_right,Int.emod_eq_of_lt (by omega) (by omega)]
   have e2:t / sc.atoms.sum = j:=by
    rw [e,Int.add_mul_ediv_right _ _ (by omega),Int.ediv_eq_zero_of_lt (by omega) (by omega),Int.zero_add]
   rw [e1,e2]
   exact ⟨⟨by omega,by omega⟩,(ih j).2 hj⟩
theorem Ev.slc {α:Type} {xs:List α} {lo hi:Int} (h:0≤lo∧lo≤hi∧hi≤xs.length):Ev (fun r=>r = (xs.drop lo.toNat).take (hi.toNat - lo.toNat)) (fun _=>Go.AL.slc xs lo hi):=⟨_,rfl,0,fun _ _=>by
 unfold Go.AL.slc
 rw [decide_eq_true h]; rfl⟩
theorem e238 (sc:Scope) (h:ScA sc.atoms) (c:Int) (h0:0≤c) (h1:c < sc.atoms.length):Ev (fun r=>r = fst sc.atoms c.toNat) (fun F=>m238 F sc c):=by
 unfold m238
 refine Ev.bind (Ev.slc ⟨by omega,h0,by omega⟩) (fun y hy=>?_)
 have hy:y = sc.atoms.take c.toNat:=by rw [hy]; simp
 subst hy
 exact Ev.bind (e173 _ (h.take _)) (fun z hz=>Ev.pure hz)
theorem e237 (sc:Scope) (h:ScA sc.atoms):∀ (l:List Int),(∀ s ∈ l,0≤s∧s < sc.atoms.length)→∀ (i:Int),0≤i→(i + 1) * 20 ^ l.length≤8000→∀ (w:List Int),w.length + 5 ^ l.length≤1000000 →
  Ev (fun r=>r = w ++ fullL sc l i) (fun F=>m237 F sc (fun (out:List Int) t=>app out [t]) l i w):=by
 intro l
 induction l with
 | nil=>
  intro _ i h0 h1 w hw
  have:=Ev.app (xs:=w) (ys:=[i]) (by simp at hw ⊢; omega)
  simpa only [m237,fullL] using this
 | cons c cs ih=>
  intro hs i h0 h1 w hw
  have hc:=hs c (by simp)
  obtain ⟨a,ha⟩:=getE (l:=sc.atoms) (i:=c.toNat) (by omega)
  have har:=h.2 a (List.mem_of_getElem? ha)
  have hf:=fst_succ ha
  have hf0:=fst_rng h c.toNat
  have hn:=sum_len h
  have hf1:fst sc.atoms (c.toNat + 1)≤sc.atoms.sum:=by
   rw [← fst_len]; exact fst_mono h (by omega)
  simp only [List.length_cons] at h1 hw
  have hi8:i + 1≤8000:=by
   have:(1:Int)≤20 ^ (cs.length + 1):=Int.pow_pos (show (0:Int) < 20 by omega)
   have:=Int.mul_le_mul_of_nonneg_left this (show 0≤i + 1 by omega)
   omega
  have him0:0≤i * sc.atoms.sum:=Int.mul_nonneg h0 hn.1
  have him1:i * sc.atoms.sum≤i * 20:=Int.mul_le_mul_of_nonneg_left hn.2 h0
  simp only [m237]
  refine Ev.bind (e238 sc h c hc.1 hc.2) (fun first hfirst=>?_)
  subst hfirst
  refine Ev.bindS (fun r=>r = w ++ fullL sc (c :: cs) i) (fun _=>False) ?_ (fun x hx=>Ev.pure hx) (fun _ h=>h.elim)
  refine Ev.loop (T:=List Int) a.toNat (fun j t=>(fst sc.atoms c.toNat + (j:Int),t)) (fun j t=>t = w ++ (List.range j).flatMap fun (j:Nat)=>fullL sc cs (i * sc.atoms.sum + (fst sc.atoms c.toNat + (j:Int)))) (t0:=w) (by simp) (by simp) (fun j t hj ht=>?_) (fun t ht=>?_)
  ·refine Ev.ixi hc.1 ha ?_
   rw [w64_id (x:=fst sc.atoms c.toNat + a) (by omega) (by omega)]
   refine Ev.dt (show fst sc.atoms c.toNat + (j:Int) < fst sc.atoms c.toNat + a by omega) (Ev.bind (e112 sc h) (fun tot htot=>?_))
   subst htot
   show Ev _ (fun F=>(m237 F sc (fun (out:List Int) t=>app out [t]) cs (w64 (w64 (i * sc.atoms.sum) + (fst sc.atoms c.toNat + (j:Int)))) t).bind fun w=>some (Out.next (w64 (fst sc.atoms c.toNat + (j:Int) + 1),w)))
   rw [w64_id (x:=i * sc.atoms.sum) (by omega) (by omega),w64_id (x:=i * sc.atoms.sum + (fst sc.atoms c.toNat + (j:Int))) (by omega) (by omega),w64_id (x:=fst sc.atoms c.toNat + (j:Int) + 1) (by omega) (by omega)]
   refine Ev.bind (ih (fun s hs'=>hs s (by simp [hs'])) _ (by omega) ?_ t ?_) (fun u hu=>Ev.pure ⟨u,?_,?_⟩)
   ·have e1:i * sc.atoms.sum + (fst sc.atoms c.toNat + (j:Int)) + 1≤(i + 1) * 20:=by
     rw [Int.add_mul]; omega
    have e2:=Int.mul_le_mul_of_nonneg_right e1 (show (0:Int)≤20 ^ cs.length from Int.pow_nonneg (by omega))
    rw [Int.mul_assoc,← Int.pow_succ'] at e2
    omega
   ·have h1:=range_flat_len (f:=fun (j:Nat)=>fullL sc cs (i * sc.atoms.sum + (fst sc.atoms c.toNat + (j:Int)))) (fun j=>fullL_len h cs _) j
    have h2:=Nat.mul_le_mul_right (5 ^ cs.length) (show j + 1≤5 by omega)
    rw [ht,List.length_append]
    rw [Nat.pow_succ] at hw
    rw [Nat.succ_mul] at h2
    omega
   ·congr 1
    show _ = fst sc.atoms c.toNat + ((j + 1:Nat):Int)
    omega
   ·rw [hu,ht,List.range_succ,List.flatMap_append]
    simp
  ·refine Ev.ixi hc.1 ha ?_
   rw [w64_id (x:=fst sc.atoms c.toNat + a) (by omega) (by omega)]
   refine Ev.df (show ¬ fst sc.atoms c.toNat + (a.toNat:Int) < fst sc.atoms c.toNat + a by omega) (Ev.pure ?_)
   show t = w ++ fullL sc (c :: cs) i
   rw [ht]
   simp only [fullL,ha,Option.getD_some]
theorem e116 (sc:Scope) (h:ScA sc.atoms) (l:List Int) (h1:1≤l.length) (h3:l.length≤3) (hs:∀ s ∈ l,0≤s∧s < sc.atoms.length):Ev (fun r=>r = Rel.mk (l.length:Int) (fullL sc l 0)) (fun F=>m116 F sc l):=by
 unfold m116
 refine Ev.bind (e172 _ 1 3) (fun y1 hy1=>?_)
 rw [hy1.2 (by omega)]
 refine Ev.if (c:=!true) rfl ?_
 refine Ev.bindS (fun (_:Unit)=>True) (fun _=>False) ?_ (fun _ _=>?_) (fun _ h=>h.elim)
 ·refine Ev.each (n:=l.length) (by omega) (fun _=>True) trivial (fun i hi _=>?_) (fun _=>trivial)
  obtain ⟨s,hsi⟩:=getE hi
  have hsr:=hs s (List.mem_of_getElem? hsi)
  have h4:=h.1
  refine Ev.ixb hsi ?_
  rw [w64_id (x:=(sc.atoms.length:Int) - 1) (by omega) (by omega)]
  refine Ev.bind (e172 s 0 _) (fun y6 hy6=>?_)
  rw [hy6.2 (by omega)]
  exact Ev.if (c:=!true) rfl (Ev.pure ⟨rfl,trivial⟩)
 ·refine Ev.bind (e237 sc h l hs 0 (by omega) ?_ [] ?_) (fun y hy=>Ev.pure (by rw [hy]; simp))
  ·match l.length,h3 with
   | 0,_=>decide
   | 1,_=>decide
   | 2,_=>decide
   | 3,_=>decide
  ·match l.length,h3 with
   | 0,_=>decide
   | 1,_=>decide
   | 2,_=>decide
   | 3,_=>decide
theorem mget_mput (k v k':Int):∀ m:List (Int×Int),mget (mput m k v) k' = if k' = k then v else mget m k'
 | []=>by
  by_cases e:k' = k
  ·simp [mput,mget,e]
  ·have b1:(k' == k) = false:=beq_eq_false_iff_ne.2 e
   rw [if_neg e]
   simp only [mput,mget,b1,cond_false]
 | (k0,v0) :: l=>by
  have ih:=mget_mput k v k' l
  by_cases e0:k = k0
  ·subst e0
   have b0:(k == k) = true:=beq_self_eq_true k
   by_cases e:k' = k
   ·subst e
    rw [if_pos rfl]
    simp only [mput,mget,b0,cond_true]
   ·have b1:(k' == k) = false:=beq_eq_false_iff_ne.2 e
    rw [if_neg e]
    simp only [mput,mget,b0,b1,cond_true,cond_false]
  ·have b0:(k == k0) = false:=beq_eq_false_iff_ne.2 e0
   by_cases e1:k' = k0
   ·subst e1
    have b1:(k' == k') = true:=beq_self_eq_true k'
    rw [if_neg (fun e=>e0 e.symm)]
    simp only [mput,mget,b0,b1,cond_true,cond_false]
   ·have b1:(k' == k0) = false:=beq_eq_false_iff_ne.2 e1
    simp only [mput,mget,b0,b1,cond_false,ih]
theorem e233 (b:Rel) (hb:b.tuples.length≤LIM):Ev (fun m=>∀ k,mget m k = 0↔k ∉ b.tuples) (fun F=>m233 F b (fun z=>m234 F z)):=by
 simp only [LIM] at hb
 unfold m233
 refine Ev.bindS (fun m=>∀ k,mget m k = 0↔k ∉ b.tuples) (fun _=>False) ?_ (fun x hx=>Ev.pure hx) (fun _ h=>h.elim)
 refine Ev.loop (T:=List (Int×Int)) b.tuples.length (fun i t=>((i:Int),t)) (fun i t=>∀ k,0≤mget t k∧mget t k≤i∧(mget t k = 0↔∀ j,j < i→b.tuples[j]? ≠ some k)) rfl (fun k=>⟨by simp [mget],by simp [mget],fun _ j hj=>by omega,fun _=>rfl⟩) (fun i t hi ht=>Ev.dt (Int.ofNat_lt.2 hi) ?_) (fun t ht=>Ev.df (Int.lt_irrefl _) (Ev.pure fun k=>?_))
 ·obtain ⟨y,hy⟩:=getE hi
  refine Ev.ixb hy ?_
  unfold m234
  refine Ev.bind (P:=fun z=>z = y) (Ev.pure rfl) (fun z hz=>?_)
  subst hz
  refine Ev.pure ⟨mput t z (w64 (mget t z + 1)),by rw [w64_succ (by omega)],fun k=>?_⟩
  have a:=ht z
  have c:=ht k
  rw [mget_mput,w64_id (by omega) (by omega)]
  by_cases e:k = z
  ·subst e
   rw [if_pos rfl]
   refine ⟨by omega,by omega,fun h=>(by omega),fun h=>(h i (by omega) hy).elim⟩
  ·rw [if_neg e]
   refine ⟨c.1,by omega,fun h j hj hjk=>?_,fun h=>c.2.2.2 fun j hj=>h j (by omega)⟩
   by_cases e2:j = i
   ·subst e2; rw [hy] at hjk; cases hjk; exact e rfl
   ·exact c.2.2.1 h j (by omega) hjk
 ·show mget t k = 0↔k ∉ b.tuples
  rw [(ht k).2.2]
  refine ⟨fun h hk=>?_,fun h j _ hjk=>h (List.mem_of_getElem? hjk)⟩
  obtain ⟨j,hj⟩:=List.mem_iff_getElem?.1 hk
  exact h j (getLt hj) hj
theorem e235 {W:Int→Bool} (l:List Int) (hl:l.length≤LIM) (f:Nat→Int→Option Bool) (hf:∀ x ∈ l,Ev (fun b=>b = W x) (fun F=>f F x)):Ev (fun r=>r = l.filter W) (fun F=>m235 F l (f F)):=by
 simp only [LIM] at hl
 unfold m235
 refine Ev.bindS (fun r=>r = l.filter W) (fun _=>False) ?_ (fun x hx=>Ev.pure hx) (fun _ h=>h.elim)
 refine Ev.loop (T:=List Int) l.length (fun i t=>((i:Int),t)) (fun i t=>t = (l.take i).filter W) rfl (by simp) (fun i t hi ht=>Ev.dt (Int.ofNat_lt.2 hi) ?_) (fun t ht=>Ev.df (Int.lt_irrefl _) (Ev.pure (by show t = _; rw [ht,List.take_length])))
 obtain ⟨y,hy⟩:=getE hi
 have hlen:t.length≤i:=by
  rw [ht]
  have:=List.length_filter_le W (l.take i)
  rw [List.length_take] at this
  omega
 have hstep:(l.take (i + 1)).filter W = t ++ (if W y then [y] else []):=by
  rw [List.take_add_one,hy,List.filter_append,ht]
  congr 1
  cases hw:W y <;> simp [hw]
 refine Ev.ixb hy (Ev.bind (hf y (List.mem_of_getElem? hy)) (fun b hb=>Ev.ite (fun h1=>Ev.bind (Ev.app (show t.length + 1 < _ by omega)) (fun u hu=>Ev.pure ⟨u,by rw [w64_succ (by omega)],?_⟩)) (fun h1=>Ev.pure ⟨t,by rw [w64_succ (by omega)],?_⟩)))
 ·rw [hstep,hu,← hb,h1]; rfl
 ·rw [hstep,← hb,h1]; simp
theorem e177 (a b:Rel) (ha:a.tuples.length≤LIM) (hb:b.tuples.length≤LIM):Ev (fun r=>r = Rel.mk a.arity (a.tuples.filter fun t=>!decide (t ∈ b.tuples))) (fun F=>m177 F a b):=by
 unfold m177
 refine Ev.bind (e233 b hb) (fun m hm=>Ev.bind (e235 (W:=fun t=>!decide (t ∈ b.tuples)) a.tuples ha (fun _ z=>some (mget m z == 0)) (fun x _=>Ev.pure ?_)) (fun y hy=>Ev.pure (by rw [hy])))
 by_cases h:x ∈ b.tuples
 ·have:mget m x ≠ 0:=fun e=>(hm x).1 e h
  simp [h,this]
 ·have:mget m x = 0:=(hm x).2 h
  simp [h,this]
theorem e115 (a b:Rel) (ha:a.tuples.length≤LIM) (hb:b.tuples.length≤LIM):Ev (fun r=>r = true↔∀ t ∈ a.tuples,t ∈ b.tuples) (fun F=>m115 F a b):=by
 unfold m115
 refine Ev.bind (e177 a b ha hb) (fun y hy=>Ev.pure ?_)
 subst hy
 simp [List.filter_eq_nil_iff]
end Go.AL
namespace Go.AL
open Go
set_option maxRecDepth 4000
theorem e66 (sp:Spec) (hs:SpSm sp) (h:SpOk sp) (m:Model) (hm:MoSm m):Ev (fun r=>r = true↔ModelOk sp m) (fun F=>m66 F sp m):=by
 have q1:=hm.states
 have q2:=hs.fields
 simp only [LIM] at q1 q2
 unfold m66
 refine Ev.bind (e111 sp m.scope hs.sorts hm.atoms) (fun y1 hy1=>?_)
 refine Ev.bind (P:=fun p=>p = false↔ScOk sp m.scope∧(m.states.length:Int) = m.scope.steps∧0≤m.loop∧m.loop < m.scope.steps) ?_ (fun p hp=>?_)
 ·refine Ev.ite (fun h1=>Ev.pure ⟨fun h=>(by cases h),fun h2=>?_⟩) (fun h1=>?_)
  ·have:=hy1.2 h2.1
   rw [this] at h1; cases h1
  have hsc:=hy1.1 (bnot_t h1)
  refine Ev.ite (fun h2=>Ev.pure ⟨fun h=>(by cases h),fun h3=>?_⟩) (fun h2=>?_)
  ·rw [h3.2.1] at h2; simp at h2
  have hlen:(m.states.length:Int) = m.scope.steps:=by simpa using h2
  refine Ev.dec (fun h3=>Ev.pure ⟨fun h=>(by cases h),fun h4=>(by have:=h4.2.2; omega)⟩) (fun h3=>Ev.pure ⟨fun h4=>?_,fun h4=>decide_eq_false (by have:=h4.2.2; omega)⟩)
  have:=of_decide_eq_false h4
  exact ⟨hsc,hlen,by omega,by omega⟩
 refine Ev.ite (fun h1=>Ev.pure ⟨fun h=>(by cases h),fun hok=>?_⟩) (fun h1=>?_)
 ·have:=hp.2 ⟨hok.sc,hok.len,hok.loop⟩
  rw [h1] at this; cases this
 obtain ⟨hsc,hlen,hlp0,hlp1⟩:=hp.1 h1
 have hst1:=hsc.steps
 refine Ev.bind (e112 m.scope hsc.sca) (fun y4 hy4=>?_)
 subst hy4
 refine Ev.bindS (fun (_:Unit)=>True) (fun _=>False) ?_ (fun _ _=>?_) (fun _ h=>h.elim)
 ·refine Ev.each (n:=sp.fields.length) (by omega) (fun _=>True) trivial (fun i hi _=>?_) (fun _=>trivial)
  obtain ⟨f,hf⟩:=getE hi
  refine Ev.ixb hf (Ev.bind (e113 sp f (h.fsorts f (List.mem_of_getElem? hf))) (fun y9 hy9=>?_))
  subst hy9
  exact Ev.if (c:=!true) rfl (Ev.pure ⟨rfl,trivial⟩)
 refine Ev.bindS (fun (_:Unit)=>∀ st ∈ m.states,st.length = sp.fields.length∧∀ (k:Nat) f,sp.fields[k]? = some f→StateGood sp m k f st) (fun r=>r = false∧¬ ModelOk sp m) ?_ (fun _ hx=>Ev.pure ⟨fun _=>⟨hsc,hlen,⟨hlp0,hlp1⟩,fun st hst=>(hx st hst).1,fun k f hf st hst=>(hx st hst).2 k f hf⟩,fun _=>rfl⟩) (fun r hr=>Ev.pure ⟨fun h=>(by rw [hr.1] at h; cases h),fun h=>(hr.2 h).elim⟩)
 refine Ev.each (n:=m.states.length) (by omega) (fun j=>∀ j',j' < j→∀ st,m.states[j']? = some st→st.length = sp.fields.length∧∀ (k:Nat) f,sp.fields[k]? = some f→StateGood sp m k f st) (fun j hj=>by omega) (fun j hj hB=>?_) allOf
 obtain ⟨st,hst⟩:=getE hj
 have hstm:=List.mem_of_getElem? hst
 refine Ev.ixb hst (Ev.ite (fun hne=>Ev.pure ⟨rfl,fun hok=>?_⟩) (fun heq=>?_))
 ·have:=hok.state st hstm
  rw [this] at hne; simp at hne
 have hsl:st.length = sp.fields.length:=by simp at heq; omega
 obtain ⟨st0,hst0⟩:=getE (show 0 < m.states.length by omega)
 have hs0l:st0.length = sp.fields.length:=by
  by_cases e:j = 0
  ·subst e; rw [hst] at hst0; cases hst0; exact hsl
  ·exact (hB 0 (by omega) st0 hst0).1
 refine Ev.bindS (fun (_:Unit)=>∀ k,k < sp.fields.length→∀ f,sp.fields[k]? = some f→StateGood sp m k f st) (fun r=>r = false∧¬ ModelOk sp m) ?_ (fun _ hx=>Ev.pure ⟨rfl,stepA hB hst ⟨hsl,fun k f hf=>hx k (getLt hf) f hf⟩⟩) (fun r hr=>Ev.pure hr)
 refine Ev.each (n:=sp.fields.length) (by omega) (fun i=>∀ k,k < i→∀ f,sp.fields[k]? = some f→StateGood sp m k f st) (fun j hj=>by omega) (fun i hi hA=>?_) (fun h=>h)
 obtain ⟨f,hf⟩:=getE hi
 have hfo:FieldOk sp f:=h.fsorts f (List.mem_of_getElem? hf)
 have hn1:=sum_pos_of hsc hfo
 obtain ⟨r,hr⟩:=getE (show i < st.length by omega)
 have hrl:=hm.rels st hstm r (List.mem_of_getElem? hr)
 have hfr:∀ s ∈ f.sorts,0≤s∧s < m.scope.atoms.length:=fun s hs=>by have:=hfo.2.2 s hs; have:=hsc.len; omega
 have hbad:∀ {p:Prop},ModelOk sp m→(RelAt m.scope f r∧(f.var = false→∃ st0,m.states[0]? = some st0∧st0[i]? = some r)→p)→p:=fun hok hp=>by
  obtain ⟨_,r',g1,g2⟩:=hok.rel i f hf st hstm
  rw [hr] at g1; cases g1
  exact hp g2
 refine Ev.ixb hf (Ev.ixb hr (Ev.bind (P:=fun p=>p = false↔RelAt m.scope f r) ?_ (fun p hp=>?_)))
 ·refine Ev.ite (fun h1=>Ev.pure ⟨fun h=>(by cases h),fun h2=>?_⟩) (fun h1=>?_)
  ·rw [h2.arity] at h1; simp at h1
  have har:r.arity = (f.sorts.length:Int):=by simpa using h1
  refine Ev.bind (e114 _ r hrl) (fun y16 hy16=>Ev.ite (fun h2=>Ev.pure ⟨fun h=>(by cases h),fun h3=>?_⟩) (fun h2=>?_))
  ·have:=hy16.2 h3.ok
   rw [this] at h2; cases h2
  have hok:=hy16.1 (bnot_t h2)
  refine Ev.bind (e116 m.scope hsc.sca f.sorts hfo.1 hfo.2.1 hfr) (fun y23 hy23=>?_)
  subst hy23
  have hfl:(fullL m.scope f.sorts 0).length≤LIM:=by
   have:=fullL_len hsc.sca f.sorts 0
   have h5:5 ^ f.sorts.length≤5 ^ 3:=Nat.pow_le_pow_right (by omega) hfo.2.1
   simp only [LIM]; omega
  have hty:∀ t,Typed m.scope f.sorts t↔t ∈ fullL m.scope f.sorts 0:=fun t=>by
   have:=typed_full hsc.sca hn1 f.sorts.reverse t (fun s hs=>hfr s (by simpa using hs))
   rw [List.reverse_reverse] at this
   exact this
  refine Ev.bind (e115 r _ hrl hfl) (fun y24 hy24=>Ev.pure ⟨fun h3=>⟨har,hok,fun t ht=>(hty t).2 (hy24.1 (bnot_t h3) t ht)⟩,fun h3=>?_⟩)
  rw [hy24.2 fun t ht=>(hty t).1 (h3.typed t ht)]; rfl
 refine Ev.ite (fun h1=>Ev.pure ⟨rfl,fun hok=>hbad hok fun g=>?_⟩) (fun h1=>?_)
 ·rw [hp.2 g.1] at h1; cases h1
 have hra:=hp.1 h1
 refine Ev.bind (P:=fun p=>p = false↔(f.var = false→∃ st0,m.states[0]? = some st0∧st0[i]? = some r)) ?_ (fun p hp=>?_)
 ·refine Ev.ite (fun h4=>?_) (fun h4=>Ev.pure ⟨fun _ h5=>(by rw [bnot_t h4] at h5; cases h5),fun _=>rfl⟩)
  obtain ⟨r0,hr0⟩:=getE (show i < st0.length by omega)
  refine Ev.ixb (i:=0) hst0 (Ev.ixb hr0 (Ev.bind (e117 r r0 hrl) (fun y20 hy20=>Ev.pure ⟨fun h5 _=>⟨st0,hst0,?_⟩,fun h5=>?_⟩)))
  ·rw [hy20.1 (bnot_t h5)]; exact hr0
  ·obtain ⟨st0',g1,g2⟩:=h5 (bnot_f h4)
   rw [hst0] at g1; cases g1
   rw [hr0] at g2; cases g2
   rw [hy20.2 rfl]; rfl
 ·refine Ev.ite (fun h1=>Ev.pure ⟨rfl,fun hok=>hbad hok fun g=>?_⟩) (fun h1=>Ev.pure ⟨rfl,stepI hA hf ⟨hsl,r,hr,hra,hp.1 h1⟩⟩)
  rw [hp.2 g.2] at h1; cases h1
theorem e120 (x:Bound) (r:Rel) (hl:x.lower.tuples.length≤LIM) (hu:x.upper.tuples.length≤LIM) (hr:r.tuples.length≤LIM):Ev (fun b=>b = true↔WithinB x r) (fun F=>m120 F x r):=by
 unfold m120
 refine Ev.bind (P:=fun p=>p = true↔x.lower.arity = r.arity∧x.upper.arity = r.arity) ?_ (fun p hp=>?_)
 ·exact Ev.ite (fun h1=>Ev.pure ⟨fun h=>⟨by simpa using h1,by simpa using h⟩,fun h=>by simp [h.2]⟩) (fun h1=>Ev.pure ⟨fun h=>(by cases h),fun h=>by rw [h.1] at h1; simp at h1⟩)
 refine Ev.bind (P:=fun b=>b = true↔WithinB x r) ?_ (fun b hb=>Ev.pure hb)
 refine Ev.ite (fun h1=>?_) (fun h1=>Ev.pure ⟨fun h=>(by cases h),fun h=>?_⟩)
 ·obtain ⟨ha,hb⟩:=hp.1 h1
  refine Ev.bind (e115 x.lower r hl hr) (fun y hy=>Ev.ite (fun h2=>Ev.bind (e115 r x.upper hr hu) (fun z hz=>Ev.pure ⟨fun h3=>⟨ha,hb,hy.1 h2,hz.1 h3⟩,fun h=>hz.2 h.upper⟩)) (fun h2=>Ev.pure ⟨fun h=>(by cases h),fun h=>?_⟩))
  rw [hy.2 h.lower] at h2; cases h2
 ·rw [hp.2 ⟨h.la,h.ua⟩] at h1; cases h1
theorem e119 {W:Bound→Rel→Prop} (a:List Bound) (b:List Rel) (ha:a.length≤LIM) (f:Nat→Bound→Rel→Option Bool) (hf:∀ x ∈ a,∀ y ∈ b,Ev (fun r=>r = true↔W x y) (fun F=>f F x y)) :
  Ev (fun r=>r = true↔a.length = b.length∧∀ (k:Nat) x y,a[k]? = some x→b[k]? = some y→W x y) (fun F=>m119 F a b (f F)):=by
 simp only [LIM] at ha
 unfold m119
 refine Ev.ite (fun h=>Ev.pure ⟨fun h=>(by cases h),fun h2=>?_⟩) (fun h=>?_)
 ·rw [h2.1] at h; simp at h
 have hl:a.length = b.length:=by simp at h; omega
 refine Ev.bindS (fun (_:Unit)=>∀ k,k < a.length→∀ x,a[k]? = some x→∀ y,b[k]? = some y→W x y) (fun r=>r = false∧¬ (a.length = b.length∧∀ (k:Nat) x y,a[k]? = some x→b[k]? = some y→W x y)) ?_ (fun _ hx=>Ev.pure ⟨fun _=>⟨hl,fun k x y h1 h2=>hx k (getLt h1) x h1 y h2⟩,fun _=>rfl⟩) (fun r hr=>Ev.pure ⟨fun h=>(by rw [hr.1] at h; cases h),fun h=>(hr.2 h).elim⟩)
 refine Ev.each (n:=a.length) (by omega) (fun i=>∀ k,k < i→∀ x,a[k]? = some x→∀ y,b[k]? = some y→W x y) (fun j hj=>by omega) (fun i hi hA=>?_) (fun h=>h)
 obtain ⟨x,hx⟩:=getE hi
 obtain ⟨y,hy⟩:=getE (show i < b.length by omega)
 refine Ev.ixb hx (Ev.ixb hy (Ev.bind (hf x (List.mem_of_getElem? hx) y (List.mem_of_getElem? hy)) (fun r hr=>Ev.ite (fun h1=>Ev.pure ⟨rfl,fun hall=>?_⟩) (fun h1=>Ev.pure ⟨rfl,stepI (p:=fun k x=>∀ y,b[k]? = some y→W x y) hA hx (fun y' hy'=>?_)⟩))))
 ·rw [hr.2 (hall.2 i x y hx hy)] at h1; cases h1
 ·rw [hy] at hy'; cases hy'
  exact hr.1 (bnot_t h1)
theorem e179 {W:List Rel→Prop} (l:List (List Rel)) (hl:l.length≤LIM) (f:Nat→List Rel→Option Bool) (hf:∀ x ∈ l,Ev (fun b=>b = true↔W x) (fun F=>f F x)):Ev (fun r=>0≤r↔∃ x ∈ l,W x) (fun F=>m179 F l (f F)):=by
 simp only [LIM] at hl
 unfold m179
 refine Ev.bindS (fun (_:Unit)=>∀ x ∈ l,¬ W x) (fun (r:Int)=>0≤r∧∃ x ∈ l,W x) ?_ (fun _ hx=>Ev.pure ⟨fun h=>(by omega),fun ⟨x,h1,h2⟩=>(hx x h1 h2).elim⟩) (fun r hr=>Ev.pure ⟨fun _=>hr.2,fun _=>hr.1⟩)
 refine Ev.each (n:=l.length) (by omega) (fun i=>∀ j,j < i→∀ x,l[j]? = some x→¬ W x) (fun j hj=>by omega) (fun i hi hA=>?_) allOf
 obtain ⟨x,hx⟩:=getE hi
 have hm:=List.mem_of_getElem? hx
 refine Ev.ixb hx (Ev.bind (hf x hm) (fun b hb=>Ev.ite (fun h1=>Ev.pure ⟨Int.natCast_nonneg i,x,hm,hb.1 h1⟩) (fun h1=>Ev.pure ⟨rfl,stepA hA hx (fun hw=>?_)⟩)))
 rw [hb.2 hw] at h1; cases h1
theorem e67 (b:List Bound) (m:Model) (hb:BdSm b) (hm:MoSm m):Ev (fun r=>r = true↔ContB b m) (fun F=>m67 F b m):=by
 unfold m67 m121
 refine Ev.bind (P:=fun r=>r = true↔¬ ContB b m) ?_ (fun y hy=>Ev.pure ?_)
 ·refine Ev.bind (e179 (W:=fun st=>¬ (b.length = st.length∧∀ (k:Nat) x r,b[k]? = some x→st[k]? = some r→WithinB x r)) m.states hm.states (fun F z0=>m118 F z0 b) (fun st hst=>?_)) (fun y hy=>Ev.pure ?_)
  ·unfold m118
   refine Ev.bind (e119 b st hb.1 (fun F z0 z1=>m120 F z0 z1) (fun x hx r hr=>e120 x r (hb.2 x hx).1 (hb.2 x hx).2 (hm.rels st hst r hr))) (fun y hy=>Ev.pure ?_)
   rw [← hy]
   cases y <;> simp
  ·have e:(∃ st ∈ m.states,¬ (b.length = st.length∧∀ (k:Nat) x r,b[k]? = some x→st[k]? = some r→WithinB x r))↔¬ ContB b m:=by
    constructor
    ·rintro ⟨st,h1,h2⟩ hc
     exact h2 ⟨(hc st h1).1.symm,(hc st h1).2⟩
    ·intro hc
     apply Classical.byContradiction
     intro hno
     refine hc fun st hst=>?_
     have:=Classical.not_not.1 fun hn=>hno ⟨st,hst,hn⟩
     exact ⟨this.1.symm,this.2⟩
   rw [← e,← hy]
   exact ⟨fun h=>of_decide_eq_true h,fun h=>decide_eq_true h⟩
 ·cases y with
  | true=>exact ⟨fun h=>(by cases h),fun h=>(hy.1 rfl h).elim⟩
  | false=>exact ⟨fun _=>Classical.not_not.1 fun h=>(by have:=hy.2 h; cases this),fun _=>rfl⟩
theorem e122 (x y:Int):Ev (fun r=>r = decide (x < y)) (fun F=>m122 F x y):=by
 unfold m122
 refine Ev.bind (P:=fun r=>r = decide (x < y)) ?_ (fun r hr=>Ev.pure hr)
 unfold m180
 refine Ev.bind (P:=fun b=>b = false) (Ev.pure (by simp)) (fun b hb=>Ev.if hb (Ev.pure rfl))
theorem mid_eq (x:Nat) (h:x < 4611686018427387904):IntKind.i64.wrap (Int.fdiv (IntKind.u64.wrap (w64 (x:Int))) (2 ^ (min (1:Int).toNat 64))) = ((x / 2:Nat):Int):=by
 rw [w64_id (x:=(x:Int)) (by omega) (by omega)]
 have e:IntKind.u64.wrap (x:Int) = (if (false && decide ((x:Int) % 2 ^ 64 ≥ 2 ^ 63)) = true then (x:Int) % 2 ^ 64 - 2 ^ 64 else (x:Int) % 2 ^ 64):=rfl
 have e2:(2:Int) ^ (min (1:Int).toNat 64) = 2:=rfl
 rw [e,e2,if_neg (by simp)]
 have e3:(x:Int) % 2 ^ 64 = x:=by omega
 rw [e3,Int.fdiv_eq_ediv_of_nonneg _ (by omega)]
 show w64 _ = _
 rw [w64_id (by omega) (by omega)]
 omega
theorem e69 (l:List Int) (hl:l.length≤LIM) (k:Int):Ev (fun b=>(b.2 = true→k ∈ l)∧(SortedL l→k ∈ l→b.2 = true)) (fun F=>m69 F l k):=by
 simp only [LIM] at hl
 unfold m69
 refine Ev.bindS (fun (lo:Int)=>∃ j:Nat,lo = j∧j≤l.length∧(SortedL l→(∀ i x,i < j→l[i]? = some x→x < k)∧∀ i x,j≤i→l[i]? = some x→k≤x)) (fun _=>False) ?_ (fun x hx=>?_) (fun _ h=>h.elim)
 ·refine Ev.runs (fun s=>∃ lo hi:Nat,s = ((lo:Int),(hi:Int))∧lo≤hi∧hi≤l.length∧(SortedL l→(∀ i x,i < lo→l[i]? = some x→x < k)∧∀ i x,hi≤i→l[i]? = some x→k≤x)) (fun s=>(s.2 - s.1).toNat) ?_ (fun s hs=>?_)
  ·exact ⟨0,l.length,rfl,by omega,by omega,fun _=>⟨fun i x hi=>by omega,fun i x hi hx=>by have:=getLt hx; omega⟩⟩
  obtain ⟨lo,hi,rfl,h1,h2,h3⟩:=hs
  refine Ev.dec (fun hlt=>?_) (fun hge=>Ev.pure ⟨lo,rfl,by omega,fun hs=>⟨(h3 hs).1,fun i x hi=>(h3 hs).2 i x (by simp at hge; omega)⟩⟩)
  have hlt:(lo:Int) < hi:=hlt
  have em:=mid_eq (lo + hi) (by omega)
  rw [Int.natCast_add] at em
  show Ev _ (fun F=>(idx l (IntKind.i64.wrap (Int.fdiv (IntKind.u64.wrap (w64 ((lo:Int) + (hi:Int)))) (2 ^ (min (1:Int).toNat 64))))).bind fun y4=>(m122 F y4 k).bind fun y5=>bif y5 then some (Out.next (w64 (IntKind.i64.wrap (Int.fdiv (IntKind.u64.wrap (w64 ((lo:Int) + (hi:Int)))) (2 ^ (min (1:Int).toNat 64))) + 1),(hi:Int))) else some (Out.next ((lo:Int),IntKind.i64.wrap (Int.fdiv (IntKind.u64.wrap (w64 ((lo:Int) + (hi:Int)))) (2 ^ (min (1:Int).toNat 64))))))
  rw [em]
  refine Ev.bind (Ev.idxN (show (lo + hi) / 2 < l.length by omega)) (fun y hy=>Ev.bind (e122 y k) (fun c hc=>?_))
  subst hc
  refine Ev.dec (fun hyk=>Ev.pure ⟨⟨(lo + hi) / 2 + 1,hi,by rw [w64_succ (by omega)],by omega,h2,fun hs=>⟨fun i x hi' hx=>?_,(h3 hs).2⟩⟩,?_⟩) (fun hyk=>Ev.pure ⟨⟨lo,(lo + hi) / 2,rfl,by omega,by omega,fun hs=>⟨(h3 hs).1,fun i x hi' hx=>?_⟩⟩,?_⟩)
  ·by_cases e:i = (lo + hi) / 2
   ·subst e; rw [hy] at hx; cases hx; exact hyk
   ·have:=hs i _ x y (show i < (lo + hi) / 2 by omega) hx hy
    omega
  ·show (_:Int).toNat < (_:Int).toNat
   rw [w64_succ (by omega)]
   omega
  ·by_cases e:i = (lo + hi) / 2
   ·subst e; rw [hy] at hx; cases hx; omega
   ·have:=hs _ i y x (show (lo + hi) / 2 < i by omega) hy hx
    omega
  ·show (_:Int).toNat < (_:Int).toNat
   omega
 ·obtain ⟨j,rfl,hj,hspec⟩:=hx
  refine Ev.bind (P:=fun b=>(b.2 = true→k ∈ l)∧(SortedL l→k ∈ l→b.2 = true)) ?_ (fun b hb=>Ev.pure hb)
  refine Ev.dec (fun hlt=>Ev.bind (Ev.idxN (by omega)) (fun y hy=>?_)) (fun hge=>Ev.pure ⟨fun h=>(by cases h),fun hs hk=>?_⟩)
  ·have hno:¬ y = k→¬ (SortedL l∧k ∈ l):=fun hne ⟨hs,hk⟩=>by
    obtain ⟨i,hi⟩:=List.mem_iff_getElem?.1 hk
    obtain ⟨g1,g2⟩:=hspec hs
    have hik:¬ i < j:=fun hlt=>by have:=g1 i k hlt hi; omega
    have hky:=g2 j y (Nat.le_refl _) hy
    by_cases e:i = j
    ·subst e; rw [hi] at hy; cases hy; exact hne rfl
    ·have:=hs j i y k (by omega) hy hi
     omega
   refine Ev.ite (fun h1=>Ev.pure ⟨fun _=>?_,fun _ _=>rfl⟩) (fun h1=>Ev.bind (Ev.idxN (by omega)) (fun z hz=>?_))
   ·have:y = k:=by simpa using h1
    subst this
    exact List.mem_of_getElem? hy
   ·have h1:¬ y = k:=by simpa using h1
    unfold m123
    refine Ev.bind (P:=fun b=>b = false) (Ev.pure (by simp)) (fun b hb=>Ev.if hb (Ev.pure ⟨fun h=>(by cases h),fun hs hk=>(hno h1 ⟨hs,hk⟩).elim⟩))
  ·obtain ⟨i,hi⟩:=List.mem_iff_getElem?.1 hk
   obtain ⟨g1,g2⟩:=hspec hs
   have:=getLt hi
   have:=g1 i k (by omega) hi
   omega
def frees1 (i:Int) (x:Bound):List Pair:=(x.upper.tuples.filter fun t=>!decide (t ∈ x.lower.tuples)).map (Pair.mk i)
def freesU (b:List Bound) (n:Nat):List Pair:=(List.range n).flatMap fun (i:Nat)=>match b[i]? with
 | some x=>frees1 i x
 | none=>[]
def frees (b:List Bound):List Pair:=freesU b b.length
theorem freesU_succ {b:List Bound} {i:Nat} {x:Bound} (h:b[i]? = some x):freesU b (i + 1) = freesU b i ++ frees1 i x:=by
 unfold freesU
 rw [List.range_succ,List.flatMap_append]
 simp [h]
theorem frees1_len (i:Int) (x:Bound):(frees1 i x).length≤x.upper.tuples.length:=by
 unfold frees1
 rw [List.length_map]
 exact List.length_filter_le _ _
theorem freesU_len {b:List Bound} (hu:∀ x ∈ b,x.upper.tuples.length≤64):∀ n:Nat,(freesU b n).length≤n * 64
 | 0=>by simp [freesU]
 | n + 1=>by
  have ih:=freesU_len hu n
  cases h:b[n]? with
  | none=>
   unfold freesU at *
   rw [List.range_succ,List.flatMap_append]
   simp only [List.length_append,List.flatMap_cons,List.flatMap_nil,h,List.length_nil]
   omega
  | some x=>
   rw [freesU_succ h,List.length_append]
   have a:=frees1_len n x
   have c:=hu x (List.mem_of_getElem? h)
   omega
theorem frees_mem {b:List Bound} {p:Pair}:p ∈ frees b↔∃ (i:Nat) (x:Bound),b[i]? = some x∧p.fst = i∧p.snd ∈ x.upper.tuples∧p.snd ∉ x.lower.tuples:=by
 unfold frees freesU
 rw [List.mem_flatMap]
 constructor
 ·rintro ⟨i,hi,hp⟩
  obtain ⟨x,hx⟩:=getE (l:=b) (List.mem_range.1 hi)
  rw [hx] at hp
  simp only [frees1,List.mem_map,List.mem_filter] at hp
  obtain ⟨t,⟨h1,h2⟩,rfl⟩:=hp
  exact ⟨i,x,hx,rfl,h1,by simpa using h2⟩
 ·rintro ⟨i,x,hx,h1,h2,h3⟩
  refine ⟨i,List.mem_range.2 (getLt hx),?_⟩
  rw [hx]
  simp only [frees1,List.mem_map,List.mem_filter]
  refine ⟨p.snd,⟨h2,by simpa using h3⟩,?_⟩
  cases p; simp only at h1; rw [h1]
theorem filt_succ {l:List Int} {W:Int→Bool} {i:Nat} {y:Int} (hy:l[i]? = some y):(l.take (i + 1)).filter W = (l.take i).filter W ++ (if W y then [y] else []):=by
 rw [List.take_add_one,hy,List.filter_append]
 congr 1
 cases hw:W y <;> simp [hw]
theorem e226 (x:Bound) (hl:x.lower.tuples.length≤64) (hu:x.upper.tuples.length≤64) (hs:SortedL x.lower.tuples) (i:Int) (w0:List Pair) (hw:w0.length≤1000000) :
  Ev (fun r=>r = w0 ++ frees1 i x) (fun F=>m226 F x (fun (out:List Pair) t=>app out [Pair.mk i t]) w0):=by
 unfold m226
 refine Ev.bindS (fun r=>r = w0 ++ frees1 i x) (fun _=>False) ?_ (fun x hx=>Ev.pure hx) (fun _ h=>h.elim)
 refine Ev.loop (T:=List Pair) x.upper.tuples.length (fun j t=>((j:Int),t)) (fun j t=>t = w0 ++ ((x.upper.tuples.take j).filter fun t=>!decide (t ∈ x.lower.tuples)).map (Pair.mk i)) rfl (by simp) (fun j t hj ht=>Ev.dt (Int.ofNat_lt.2 hj) ?_) (fun t ht=>Ev.df (Int.lt_irrefl _) (Ev.pure (by show t = _; rw [ht,List.take_length]; rfl)))
 obtain ⟨y,hy⟩:=getE hj
 have hlen:t.length≤1000000 + 64:=by
  rw [ht,List.length_append,List.length_map]
  have:=List.length_filter_le (fun t=>!decide (t ∈ x.lower.tuples)) (x.upper.tuples.take j)
  rw [List.length_take] at this
  omega
 refine Ev.ixb hy (Ev.bind (e69 _ (by simp only [LIM]; omega) y) (fun r hr=>Ev.bind (P:=fun u=>u = w0 ++ ((x.upper.tuples.take (j + 1)).filter fun t=>!decide (t ∈ x.lower.tuples)).map (Pair.mk i)) ?_ (fun u hu=>Ev.pure ⟨u,by rw [w64_succ (by omega)],hu⟩)))
 rw [filt_succ hy,List.map_append,← List.append_assoc,← ht]
 refine Ev.ite (fun h1=>(Ev.app (show t.length + 1 < _ by omega)).mono fun z hz=>?_) (fun h1=>Ev.pure ?_)
 ·have:y ∉ x.lower.tuples:=fun hm=>by rw [hr.2 hs hm] at h1; cases h1
  rw [hz]; simp [this]
 ·have:=hr.1 (bnot_t h1)
  simp [this]
theorem e104 (b:List Bound) (hb:b.length≤6) (hsm:∀ x ∈ b,x.lower.tuples.length≤64∧x.upper.tuples.length≤64) (hs:∀ x ∈ b,SortedL x.lower.tuples):Ev (fun r=>r = frees b) (fun F=>m104 F b):=by
 unfold m104
 refine Ev.bindS (fun r=>r = frees b) (fun _=>False) ?_ (fun x hx=>Ev.pure hx) (fun _ h=>h.elim)
 refine Ev.loop (T:=List Pair) b.length (fun j t=>((j:Int),t)) (fun j t=>t = freesU b j) rfl rfl (fun j t hj ht=>Ev.dt (Int.ofNat_lt.2 hj) ?_) (fun t ht=>Ev.df (Int.lt_irrefl _) (Ev.pure ht))
 obtain ⟨x,hx⟩:=getE hj
 have hm:=List.mem_of_getElem? hx
 have hlen:=freesU_len (b:=b) (fun x hx=>(hsm x hx).2) j
 refine Ev.ixb hx (Ev.bind (e226 x (hsm x hm).1 (hsm x hm).2 (hs x hm) j t (by rw [ht]; omega)) (fun u hu=>Ev.pure ⟨u,by rw [w64_succ (by omega)],?_⟩))
 rw [hu,ht,freesU_succ hx]
theorem e103 (l:List Int) (hl:l.length≤LIM) (x:Int):Ev (fun r=>r = decide (x ∈ l)) (fun F=>m103 F l x):=by
 simp only [LIM] at hl
 unfold m103
 refine Ev.bindS (fun (_:Unit)=>∀ y ∈ l,y ≠ x) (fun r=>r = true∧x ∈ l) ?_ (fun _ hx=>Ev.pure ?_) (fun r hr=>Ev.pure (by rw [hr.1]; exact (decide_eq_true hr.2).symm))
 ·refine Ev.each (n:=l.length) (by omega) (fun i=>∀ j,j < i→∀ y,l[j]? = some y→y ≠ x) (fun j hj=>by omega) (fun i hi hA=>?_) allOf
  obtain ⟨y,hy⟩:=getE hi
  refine Ev.ixb hy (Ev.ite (fun h1=>Ev.pure ⟨rfl,?_⟩) (fun h1=>Ev.pure ⟨rfl,stepA hA hy (by simpa using h1)⟩))
  have:y = x:=by simpa using h1
  subst this
  exact List.mem_of_getElem? hy
 ·exact (decide_eq_false fun h=>hx x h rfl).symm
theorem e53 (b:List Bound) (hb:b.length≤6) (hsm:∀ x ∈ b,x.lower.tuples.length≤64∧x.upper.tuples.length≤64):Ev (fun r=>r = frees b) (fun F=>m53 F b):=by
 unfold m53
 refine Ev.bindS (fun r=>r = frees b) (fun _=>False) ?_ (fun x hx=>Ev.pure hx) (fun _ h=>h.elim)
 refine Ev.loop (T:=List Pair) b.length (fun j t=>((j:Int),t)) (fun j t=>t = freesU b j) rfl rfl (fun i t hi ht=>Ev.dt (Int.ofNat_lt.2 hi) ?_) (fun t ht=>Ev.df (Int.lt_irrefl _) (Ev.pure ht))
 obtain ⟨x,hx⟩:=getE hi
 have hm:=hsm x (List.mem_of_getElem? hx)
 have hlen:=freesU_len (b:=b) (fun x hx=>(hsm x hx).2) i
 refine Ev.bindS (fun r=>r = freesU b (i + 1)) (fun _=>False) ?_ (fun u hu=>Ev.pure ⟨u,by rw [w64_succ (by omega)],hu⟩) (fun _ h=>h.elim)
 refine Ev.loop (T:=List Pair) x.upper.tuples.length (fun j t=>((j:Int),t)) (fun j u=>u = t ++ ((x.upper.tuples.take j).filter fun t=>!decide (t ∈ x.lower.tuples)).map (Pair.mk i)) rfl (by simp) (fun j u hj hu=>Ev.ixb hx (Ev.dt (Int.ofNat_lt.2 hj) ?_)) (fun u hu=>Ev.ixb hx (Ev.df (Int.lt_irrefl _) (Ev.pure ?_)))
 ·obtain ⟨y,hy⟩:=getE hj
  have hul:u.length≤1000000:=by
   rw [hu,ht,List.length_append,List.length_map]
   have:=List.length_filter_le (fun t=>!decide (t ∈ x.lower.tuples)) (x.upper.tuples.take j)
   rw [List.length_take] at this
   omega
  refine Ev.ixb hx (Ev.ixb hx (Ev.ixb hy (Ev.bind (e103 _ (by simp only [LIM]; omega) y) (fun c hc=>?_))))
  have hstep:t ++ ((x.upper.tuples.take (j + 1)).filter fun t=>!decide (t ∈ x.lower.tuples)).map (Pair.mk i) = u ++ (if !decide (y ∈ x.lower.tuples) then [Pair.mk i y] else []):=by
   rw [filt_succ hy,List.map_append,← List.append_assoc,← hu]
   congr 1
   by_cases h:y ∈ x.lower.tuples <;> simp [h]
  subst hc
  refine Ev.ite (fun h1=>Ev.ixb hx (Ev.ixb hy (Ev.bind (Ev.app (show u.length + 1 < _ by omega)) (fun z hz=>Ev.pure ⟨z,by rw [w64_succ (by omega)],?_⟩)))) (fun h1=>Ev.pure ⟨u,by rw [w64_succ (by omega)],?_⟩)
  ·rw [hstep,h1,hz]; rfl
  ·rw [hstep,h1]; simp
 ·show u = _
  rw [hu,List.take_length,freesU_succ hx,ht]; rfl
end Go.AL
namespace Go.AL
open Go
variable {P:Program} {rd:Option Nat}
variable {N:Nat} {al al':List (Nat×AV)} {h h':List ABlk} {all ops:Array Oper} {o:Oper} {os:List Oper} {vs:List AV} {hs:List (List ABlk)} {big:Nat}
def WSteps (P:Program) (rd:Option Nat) (all:Array Oper) (big:Nat) (N:Nat) (al':List (Nat×AV)) (h':List ABlk):Nat→List Oper→List AV→List (List ABlk)→List (Nat×AV)→List ABlk→Prop
 | _,[],[],[],al,h=>al' = al∧h' = h
 | k,o :: os,v :: vs,h1 :: hs,al,h=>fitsN N all o = true∧RdOk rd h1∧((wantedA all al o = some true∧AStep P rd o (mask o.op (aval (lst N al))) [] h v [] h1∧(big.testBit k = true ∨ h1 = h)) ∨
   (wantedA all al o = some false∧v = undefV∧h1 = h∧big.testBit k = false))∧WSteps P rd all big N al' h' (k + 1) os vs hs (putA al o.dst v) h1
 | _,_,_,_,_,_=>False
theorem WSteps.length:∀ {os:List Oper} {vs:List AV} {hs:List (List ABlk)} {k:Nat} {al:List (Nat×AV)} {h:List ABlk},WSteps P rd all big N al' h' k os vs hs al h→vs.length = os.length∧hs.length = os.length
 | [],[],[],_,_,_,_=>⟨rfl,rfl⟩
 | _ :: _,_ :: _,_ :: _,_,_,_,hp=>by have:=WSteps.length hp.2.2.2; simp [this.1,this.2]
 | [],[],_ :: _,_,_,_,hp=>hp.elim
 | [],_ :: _,_,_,_,_,hp=>hp.elim
 | _ :: _,[],_,_,_,_,hp=>hp.elim
 | _ :: _,_ :: _,[],_,_,_,hp=>hp.elim
structure WAt (P:Program) (rd:Option Nat) (ops:Array Oper) (env:List AV) (va:Nat→AV) (H:Nat→List ABlk) (big:Nat) (i:Nat) (o:Oper):Prop where
 rdok:RdOk rd (H (i + 1))
 step:(wantedV ops (enOf ops env va i) o = some true∧AStep P rd o (mask o.op (aval (enOf ops env va i))) [] (H i) (va i) [] (H (i + 1))∧(big.testBit i = true ∨ H (i + 1) = H i)) ∨
  (wantedV ops (enOf ops env va i) o = some false∧va i = undefV∧H (i + 1) = H i∧big.testBit i = false)
theorem WSteps.at {va:Nat→AV} {H:Nat→List ABlk} {al0:List (Nat×AV)}:∀ {os:List Oper} {vs:List AV} {hs:List (List ABlk)} {al:List (Nat×AV)} {h:List ABlk} {k:Nat},WSteps P rd ops big N al' h' k os vs hs al h→ops.toList.drop k = os →
  enOf ops (lst N al0) va k = lst N al→H k = h→(∀ i v,vs[i]? = some v→va (k + i) = v)→(∀ i v,hs[i]? = some v→H (k + i + 1) = v) →
  (∀ i o,os[i]? = some o→WAt P rd ops (lst N al0) va H big (k + i) o)∧enOf ops (lst N al0) va (k + os.length) = lst N al'∧H (k + os.length) = h'
 | [],[],[],al,h,k,hp,_,he,hH,_,_=>by
  obtain ⟨rfl,rfl⟩:=hp
  exact ⟨fun i o ho=>by simp at ho,by simpa using he,by simpa using hH⟩
 | o :: os,v :: vs,h1 :: hs,al,h,k,hp,hd,he,hH,hv,hh=>by
  obtain ⟨hf,hrd1,hst,hp⟩:=hp
  obtain ⟨ho,hd'⟩:=drop_cons hd
  have hva:=hv 0 v rfl
  have hha:=hh 0 h1 rfl
  simp only [Nat.add_zero] at hva hha
  have hf':=hf
  simp only [fitsN,Bool.and_eq_true] at hf'
  have he':enOf ops (lst N al0) va (k + 1) = lst N (putA al o.dst v):=by
   simp only [enOf,ho,he,hva]
   exact lst_put hf'.1.1
  obtain ⟨g1,g2,g3⟩:=WSteps.at hp hd' he' hha (fun i v' hi=>by
   rw [show k + 1 + i = k + (i + 1) by omega]
   exact hv (i + 1) v' (by simpa using hi)) (fun i v' hi=>by
   rw [show k + 1 + i + 1 = k + (i + 1) + 1 by omega]
   exact hh (i + 1) v' (by simpa using hi))
  refine ⟨fun i o' ho'=>?_,?_,?_⟩
  ·cases i with
   | zero=>
    simp at ho'
    subst ho'
    simp only [Nat.add_zero]
    refine ⟨by rw [hha]; exact hrd1,?_⟩
    rw [he,hH,hva,hha]
    rcases hst with ⟨q1,q2,q3⟩ | ⟨q1,q2,q3,q4⟩
    ·exact .inl ⟨wantedA_ok hf'.2 q1,q2,q3⟩
    ·exact .inr ⟨wantedA_ok hf'.2 q1,q2,q3,q4⟩
   | succ i=>
    rw [show k + (i + 1) = k + 1 + i by omega]
    exact g1 i o' (by simpa using ho')
  ·rw [List.length_cons,show k + (os.length + 1) = k + 1 + os.length by omega]
   exact g2
  ·rw [List.length_cons,show k + (os.length + 1) = k + 1 + os.length by omega]
   exact g3
 | [],[],_ :: _,_,_,_,hp,_,_,_,_,_=>hp.elim
 | [],_ :: _,_,_,_,_,hp,_,_,_,_,_=>hp.elim
 | _ :: _,[],_,_,_,_,hp,_,_,_,_,_=>hp.elim
 | _ :: _,_ :: _,[],_,_,_,hp,_,_,_,_,_=>hp.elim
theorem drawW_to {bef:Nat→Nat} {env:List AV} {va:Nat→AV} {H:Nat→List ABlk} (hk:DrawOk ops bef)
  (hstrict:∀ i j,i < ops.size→j < ops.size→big.testBit j = true→i ≠ j→(bef j).testBit i = true ∨ (bef i).testBit j = true)
  (hr0:RdOk rd (H 0)) (hat:∀ i o,ops[i]? = some o→WAt P rd ops env va H big i o) :
  ∀ (m p:Nat),ops.size - p = m→p≤ops.size→DrawTo P rd ops bef env va big ⟨.normal,enOf ops env va ops.size,[],H ops.size⟩ (upTo big (fun j=>2 ^ j) p) (upTo big bef p) [] (H p):=by
 have hsame:∀ (i p:Nat),p≤i→i≤ops.size→(∀ j,p≤j→j < i→big.testBit j = false)→H i = H p:=by
  intro i
  induction i with
  | zero=>
   intro p hp _ _; have:p = 0:=by omega
   subst this; rfl
  | succ i ih=>
   intro p hp hsz hno
   by_cases he:p = i + 1
   ·subst he; rfl
   ·have hi:i < ops.size:=by omega
    have hq:=hat i ops[i] (by simp [hi])
    have hb:=hno i (by omega) (by omega)
    have e1:H (i + 1) = H i:=by
     rcases hq.step with ⟨_,_,q | q⟩ | ⟨_,_,q,_⟩
     ·rw [hb] at q; cases q
     ·exact q
     ·exact q
    rw [e1]
    exact ih p (by omega) (by omega) (fun j h1 h2=>hno j h1 (by omega))
 have hrd:∀ p,p≤ops.size→RdOk rd (H p):=fun p hp=>by
  cases p with
  | zero=>exact hr0
  | succ p=>exact (hat p ops[p] (by simp [show p < ops.size by omega])).rdok
 intro m
 induction m using Nat.strongRecOn with
 | ind m ihm=>
  intro p hm hp
  have hmem:∀ i,i < p→big.testBit i = true→(upTo big (fun j=>2 ^ j) p).testBit i = true:=fun i hi hb=>upTo_bit.2 ⟨i,hi,hb,by simp⟩
  have hpart:∀ i o,ops[i]? = some o→(upTo big bef p).testBit i = false→(upTo big (fun j=>2 ^ j) p).testBit i = false→sub (bef i &&& big) (upTo big (fun j=>2 ^ j) p)→H i = H p∧(p≤i→∀ j,p≤j→j < i→big.testBit j = false):=by
   intro i o ho hfo hB hsub
   have hi:i < ops.size:=(Array.getElem?_eq_some_iff.1 ho).1
   by_cases hpi:p≤i
   ·have hno:∀ j,p≤j→j < i→big.testBit j = false:=by
     intro j h1 h2
     cases hb:big.testBit j with
     | false=>rfl
     | true=>
      rcases hstrict i j hi (by omega) hb (by omega) with q | q
      ·have:=hk.lt _ _ q; omega
      ·have:=hsub j (by rw [Nat.testBit_and,q,hb]; rfl)
       rw [upTo_bit] at this
       obtain ⟨k,k1,_,k3⟩:=this
       rw [Nat.testBit_two_pow,decide_eq_true_eq] at k3
       omega
    exact ⟨hsame i p hpi (by omega) hno,fun _=>hno⟩
   ·refine ⟨(hsame p i (by omega) hp fun j h1 h2=>?_).symm,fun h=>absurd h hpi⟩
    cases hb:big.testBit j with
    | false=>rfl
    | true=>
     by_cases hij:i = j
     ·subst hij
      rw [hmem i (by omega) hb] at hB; cases hB
     ·rcases hstrict i j hi (by omega) hb hij with q | q
      ·have:(upTo big bef p).testBit i = true:=upTo_bit.2 ⟨j,by omega,hb,q⟩
       rw [hfo] at this; cases this
      ·have:=hk.lt _ _ q; omega
  refine DrawTo.node (fun _=>false) (fun _=>[]) (fun i=>H (i + 1)) (fun _=>.poison) (hrd p hp) ?_ ?_ ?_ ?_ ?_ ?_
  ·intro i o ho _ _ _
   rcases (hat i o ho).step with ⟨q1,_,_⟩ | ⟨q1,q2,_,q4⟩
   ·exact ⟨true,q1,fun e=>by cases e⟩
   ·exact ⟨false,q1,fun _=>⟨q2,q4⟩⟩
  ·intro i o ho hb hfo hB hsub hw
   have hH:=(hpart i o ho hfo hB hsub).1
   rcases (hat i o ho).step with ⟨_,q2,q3 | q3⟩ | ⟨q1,_⟩
   ·rw [hb] at q3; cases q3
   ·rw [q3,hH] at q2; exact q2
   ·rw [hw] at q1; injection q1 with q1; cases q1
  ·intro i o _ _ _ _ _ hpan; cases hpan
  ·intro i o ho hb hfo hB hsub _
   have hH:=(hpart i o ho hfo hB hsub).1
   rcases (hat i o ho).step with ⟨_,q2,_⟩ | ⟨_,_,_,q4⟩
   ·rw [hH] at q2; exact ⟨q2,hrd _ (Array.getElem?_eq_some_iff.1 ho).1⟩
   ·rw [hb] at q4; cases q4
  ·intro i o ho hb hfo hB hsub _
   have hi:i < ops.size:=(Array.getElem?_eq_some_iff.1 ho).1
   have hpi:p≤i:=by
    rcases Nat.lt_or_ge i p with h | h
    ·rw [hmem i h hb] at hB; cases hB
    ·exact h
   have hno:=(hpart i o ho hfo hB hsub).2 hpi
   have e1:upTo big (fun j=>2 ^ j) p ||| 2 ^ i = upTo big (fun j=>2 ^ j) (i + 1):=by
    simp only [upTo,hb,cond_true]; rw [upTo_skip hpi hno]
   have e2:upTo big bef p ||| bef i = upTo big bef (i + 1):=by
    simp only [upTo,hb,cond_true]; rw [upTo_skip hpi hno]
   rw [e1,e2]
   exact ihm (ops.size - (i + 1)) (by omega) (i + 1) rfl (by omega)
  ·intro hall
   rw [← hsame ops.size p hp (Nat.le_refl _) fun j h1 h2=>?_]
   cases hb:big.testBit j with
   | false=>rfl
   | true=>
    have:=hall j ops[j] (by simp [h2]) hb
    rw [upTo_bit] at this
    obtain ⟨k,k1,_,k3⟩:=this
    rw [Nat.testBit_two_pow,decide_eq_true_eq] at k3
    omega
def WO (P:Program) (rd:Option Nat) (all:Array Oper) (big:Nat) (k:Nat) (os:List Oper) (N:Nat) (al:List (Nat×AV)) (h:List ABlk) (Q:List (Nat×AV)→List ABlk→Prop):Prop:=
 ∃ vs hs al' h',WSteps P rd all big N al' h' k os vs hs al h∧Q al' h'
variable {k:Nat} {QA:List (Nat×AV)→List ABlk→Prop}
theorem WO.nil (hq:QA al h):WO P rd all big k [] N al h QA:=⟨[],[],al,h,⟨rfl,rfl⟩,hq⟩
theorem WO.step {v:AV} (hf:fitsN N all o = true) (hw:wantedA all al o = some true) (hs:AStep P rd o (mask o.op (aval (lst N al))) [] h v [] h') (hb:big.testBit k = true ∨ h' = h) (hr:RdOk rd h') (h2:WO P rd all big (k + 1) os N (putA al o.dst v) h' QA):WO P rd all big k (o :: os) N al h QA:=by
 obtain ⟨vs,hs',al',h'',g1,g2⟩:=h2
 exact ⟨v :: vs,h' :: hs',al',h'',⟨hf,hr,.inl ⟨hw,hs,hb⟩,g1⟩,g2⟩
theorem WO.skip (hf:fitsN N all o = true) (hw:wantedA all al o = some false) (hb:big.testBit k = false) (hr:RdOk rd h) (h2:WO P rd all big (k + 1) os N (putA al o.dst undefV) h QA):WO P rd all big k (o :: os) N al h QA:=by
 obtain ⟨vs,hs',al',h'',g1,g2⟩:=h2
 exact ⟨undefV :: vs,h :: hs',al',h'',⟨hf,hr,.inr ⟨hw,rfl,rfl,hb⟩,g1⟩,g2⟩
theorem WO.light {v:AV} (hf:fitsN N all o = true) (hw:wantedA all al o = some true) (hl:lightV P (avA al) h o.op = some v) (hr:RdOk rd h) (h2:WO P rd all big (k + 1) os N (putA al o.dst v) h QA):WO P rd all big k (o :: os) N al h QA:=by
 have hf':=hf
 simp only [fitsN,Bool.and_eq_true] at hf'
 exact WO.step hf hw (AStep.light (by rw [lightV_congr (mask_avA hf'.1.2)]; exact hl)) (.inr rfl) hr h2
theorem WO.heavy {v:AV} (hf:fitsN N all o = true) (hw:wantedA all al o = some true) (hb:big.testBit k = true) (hl:heavyV P (avA al) h o.op = some (v,h')) (hr:RdOk rd h') (h2:WO P rd all big (k + 1) os N (putA al o.dst v) h' QA):WO P rd all big k (o :: os) N al h QA:=by
 have hf':=hf
 simp only [fitsN,Bool.and_eq_true] at hf'
 exact WO.step hf hw (AStep.heavy (by rw [heavyV_congr (mask_avA hf'.1.2)]; exact hl)) (.inl hb) hr h2
theorem WO.call {c:Call} {f:FuncId} {args:List AV} {v:AV} (hf:fitsN N all o = true) (hw:wantedA all al o = some true) (ho:o.op = .call c) (hc:calleeV (avA al) c = some (f,args)) (hcal:callable P f = true)
  (hcall:ACall P f args h (.ret v) h) (hr:RdOk rd h) (h2:WO P rd all big (k + 1) os N (putA al o.dst v) h QA):WO P rd all big k (o :: os) N al h QA:=by
 have hf':=hf
 simp only [fitsN,Bool.and_eq_true] at hf'
 have hx:=mask_avA (al:=al) hf'.1.2
 refine WO.step hf hw ?_ (.inr rfl) hr h2
 rw [ho] at hx ⊢
 exact AStep.call ho (by rw [calleeV_congr hx]; exact hc) hcal hcall
theorem SX.drawW {id:Nat} {Q:AX→List (Nat×AV)→List ADef→List ABlk→Prop} (big:Nat) (hm:P.follows .mixedOrders = true) (hok:drawOkB ops.toList (masksOf ops.toList []) = true) (hst:strictB ops.size (masksOf ops.toList []) big = true)
  (hr0:RdOk rd h) (hp:WO P rd ops big 0 ops.toList N al h fun al' h'=>Q .normal al' [] h'):SX P rd (.region id ops true) N al [] h Q:=by
 obtain ⟨vs,hs,al',h',hp,hq⟩:=hp
 have hlen:=hp.length
 obtain ⟨g1,g2,g3⟩:=hp.at (va:=fun i=>vs.getD i .poison) (H:=fun i=>(h :: hs).getD i h) (al0:=al) (by simp) rfl rfl (fun i v hi=>by simp [List.getD,hi]) (fun i v hi=>by simp [List.getD,hi])
 simp only [Nat.zero_add,Array.length_toList] at g1 g2 g3
 have hrd':RdOk rd h':=by
  rw [← g3]
  cases hsz:ops.size with
  | zero=>exact hr0
  | succ n=>exact (g1 n ops[n] (by simp [show n < ops.size by omega])).rdok
 refine ⟨.normal,al',[],h',?_,hrd',hq⟩
 have:=drawW_to (P:=P) (H:=fun i=>(h :: hs).getD i h) (env:=lst N al) (va:=fun i=>vs.getD i .poison) (drawOkB_ok hok) (strictB_ok hst) hr0 (fun i o ho=>g1 i o (by simpa using ho)) ops.size 0 (by omega) (by omega)
 rw [g2,g3] at this
 exact AExec.draw hm (drawOkB_ok hok) this
end Go.AL
namespace Go.AL
open Go
variable {P:Program}
theorem make0_run {C:Ctx} {t e:TypeId} {z:AV} {sz:Nat} {i:TypeInfo} (ht:P.underlying t = some (.slice e)) (hz:zeroT P e = some z) (hsz:sizeT P e = some sz) (hi:P.info? e = some i) {k k':IntKind} :
  ∃ arr,(Instr.makeSlice t (.int k 0) (.int k' 0)).run P C.w = .ok (.slice (some ⟨C.w.heap.size,0,none⟩) 0 0) { C.w with heap:=C.w.heap.push (.cells arr e) }:=by
 obtain ⟨zv,_,hzr,hzv⟩:=run_zeroValue_ok (P:=P) (w:=C.w) hz
 have w1:=wrap64_small (n:=0) (by omega) (by omega)
 simp only [Instr.makeSlice,Sem.run_bind,run_underlying_ok ht,Result.andThen_ok,asInt,asIntOf,Sem.run_pure,run_typeInfo_ok hi,w1]
 rw [if_neg (by simp only [Bool.or_eq_true,decide_eq_true_eq,not_or]; exact ⟨⟨⟨by omega,by omega⟩,by omega⟩,by omega⟩)]
 simp only [Sem.run_bind,run_askRoom,Sem.run_pure,Result.andThen_ok,run_sizeOf_ok hsz,newRow,Sem.run_ite,hzr,run_newObj]
 split
 ·exact ⟨_,rfl⟩
 ·exact ⟨_,rfl⟩
theorem AStep.make0 {rd:Option Nat} {o:Oper} {ρ:Operand→AV} {df:List ADef} {h:List ABlk} {t e:TypeId} {x y:Operand} {z:AV} {sz:Nat} {i:TypeInfo} {n:Int} (ho:o.op = .makeSlice t x y) (hx:ρ x = .int .i64 n) (hy:ρ y = .int .i64 n) (hn:n = 0) (ht:P.underlying t = some (.slice e)) (hz:zeroT P e = some z) (hsz:sizeT P e = some sz) (hi:P.info? e = some i) :
  AStep P rd o ρ df h (.vw sz []) df h:=by
 subst hn
 obtain ⟨dst,op,ty,pos,after,guard⟩:=o
 simp only at ho
 subst ho
 refine AStep.of_run (fun c e=>by cases e) fun C σ hs hσ=>?_
 have h1:=hσ x
 have h2:=hσ y
 rw [hx] at h1
 rw [hy] at h2
 simp only [VR] at h1 h2
 obtain ⟨arr,hr⟩:=make0_run (C:=C) (k:=.i64) (k':=.i64) ht hz hsz hi
 have hk:Keep C.w { C.w with heap:=C.w.heap.push (.cells arr e) } none:=Keep.alloc C.w _
 refine ⟨C.grow { C.w with heap:=C.w.heap.push (.cells arr e) },.slice (some ⟨C.w.heap.size,0,none⟩) 0 0,.inl ?_,grow_ext hk,grow_SR hs hk,?_⟩
 ·simp only [execOp,h1,h2,Sem.run_bind,hr,Result.andThen_ok,Sem.run_pure,Ctx.grow]
 ·simp only [VR]
  exact .inr ⟨_,_,[],rfl,Nat.le_refl _,fun _=>rfl,fun h=>absurd rfl h,fun i hi=>by simp at hi,by simp only [VRL]⟩
variable {N:Nat} {al:List (Nat×AV)} {df:List ADef} {h h':List ABlk} {all:Array Oper} {k:Nat} {o:Oper} {os:List Oper} {Q:AX→List (Nat×AV)→List ADef→List ABlk→Prop}
theorem SOps.make0 {rd:Option Nat} {t e:TypeId} {x y:Operand} {z:AV} {sz:Nat} {i:TypeInfo} {n:Int} (hf:fitsN N all o = true) (hw:wantedA all al o = some true) (ho:o.op = .makeSlice t x y) (hx:avA al x = .int .i64 n) (hy:avA al y = .int .i64 n) (hn:n = 0) (ht:P.underlying t = some (.slice e)) (hz:zeroT P e = some z) (hsz:sizeT P e = some sz) (hi:P.info? e = some i) (hr:RdOk rd h)
  (h2:SOps P rd all (k + 1) os N (putA al o.dst (.vw sz [])) df h Q):SOps P rd all k (o :: os) N al df h Q:=by
 have hf':=hf
 simp only [fitsN,Bool.and_eq_true] at hf'
 have hm:=avA_op (al:=al) hf'.1.2
 rw [ho] at hm
 exact SOps.step hf hw (AStep.make0 ho (by rw [hm x (by simp [Op.operands])]; exact hx) (by rw [hm y (by simp [Op.operands])]; exact hy) hn ht hz hsz hi) hr h2
def mkB (n:Int):Option (List Bool):=bif decide (0≤n∧n < 1073741824) then some (List.replicate n.toNat false) else none
theorem mkBE {n:Int} {l:List Bool} (h:mkB n = some l):(0≤n∧n < 1073741824)∧l = List.replicate n.toNat false:=by
 unfold mkB at h
 by_cases hc:0≤n∧n < 1073741824
 ·rw [decide_eq_true hc] at h; injection h with h; exact ⟨hc,h.symm⟩
 ·rw [decide_eq_false hc] at h; cases h
theorem mkB_pos {n:Int} {l:List Bool} (h:mkB n = some l) (h0:n ≠ 0):0 < n.toNat:=by
 have:=(mkBE h).1; omega
def wr (n:Nat) (w:List Bool) (i:Int) (v:Bool):Option (List Bool):=bif Nat.beq w.length n then (inr i n).bind fun r=>updO w r v else none
theorem beqE {α:Type} {a b:Nat} {x:α} {o:Option α} (h:(bif Nat.beq a b then o else none) = some x):a = b∧o = some x:=by
 cases hb:Nat.beq a b with
 | false=>rw [hb] at h; cases h
 | true=>rw [hb] at h; exact ⟨Nat.eq_of_beq_eq_true hb,h⟩
theorem wrE {n:Nat} {w w':List Bool} {i:Int} {v:Bool} (h:wr n w i v = some w'):w.length = n∧∃ r,inr i n = some r∧updO w r v = some w':=by
 obtain ⟨h1,h2⟩:=beqE h
 obtain ⟨r,h3,h4⟩:=bindE h2
 exact ⟨h1,r,h3,h4⟩
theorem wr0 {w:List Bool} {i:Int} {v:Bool}:wr 0 w i v = none:=by
 cases hx:wr 0 w i v with
 | none=>rfl
 | some w'=>
  obtain ⟨_,r,h1,_⟩:=wrE hx
  have:=inrE h1
  omega
theorem slcF_all {xs:List Bool} {n:Int} (h:xs.length = n.toNat) (h0:0 < n.toNat):slcF xs n n.toNat = some xs:=by
 unfold slcF
 have:xs.length = n.toNat∧0≤n∧n≤n.toNat:=⟨h,by omega,by omega⟩
 rw [decide_eq_true this,← h]
 simp
theorem heavyV_makeB {ρ:Operand→AV} {h:List ABlk} {t e:TypeId} {x:Operand} {n:Int} {l:List Bool} {i:TypeInfo} (hx:ρ x = .int .i64 n) (ht:P.underlying t = some (.slice e)) (hz:zeroT P e = some (.bool false)) (hs:sizeT P e = some 1) (hi:P.info? e = some i) (hby:Nat.ble i.bytes 65536 = true) (hl:mkB n = some l) :
  heavyV P ρ h (.makeSlice t x x) = some (.hsl h.length 0 0 n.toNat (some n.toNat),h ++ [.row 0 1 (l.map AV.bool)]):=by
 obtain ⟨⟨h0,h1⟩,rfl⟩:=mkBE hl
 have hb:=Nat.le_of_ble_eq_true hby
 have h2:(i.bytes:Int) * n≤2 ^ 47:=by
  have:(i.bytes:Int) * n≤65536 * 1073741824:=Int.mul_le_mul (by omega) (by omega) h0 (by omega)
  omega
 simp only [heavyV,makeSliceV,hx,ht,hz,hs,hi,cellsV]
 rw [if_pos ⟨h0,Int.le_refl _,by omega,h2,rfl,by omega⟩]
 simp
end Go.AL
namespace Go.AL
open Go Go.Proofs
set_option maxRecDepth 10000
set_option maxHeartbeats 4000000
def st18 (F:Nat) (m:Model) (n:Nat) (w:List Bool) (e:Entry):Option (List Bool):=
 (idx m.states e.state).bind fun st=>
 (idx st e.field).bind fun r=>
 (m69 F r.tuples e.rank).bind fun p=>
 wr n w (w64 (e.variable_ - 1)) p.2
theorem st18_0 {F:Nat} {m:Model} {w:List Bool} {e:Entry}:st18 F m 0 w e = none:=by
 unfold st18
 simp only [wr0]
 cases idx m.states e.state with
 | none=>rfl
 | some st=>
  simp only [Option.bind_some]
  cases idx st e.field with
  | none=>rfl
  | some r=>
   simp only [Option.bind_some]
   cases m69 F r.tuples e.rank <;> rfl
theorem Spec.avoid' (S:Nat→Bool) (s:Spec):avoidV S s.av:=s.cells_avoid S
def m18 (F:Nat) (sp:Spec) (sc:Scope) (b:List Bound) (m:Model):Option (List Bool×Bool):=
 (bif (m.scope.steps != sc.steps) then
 some (true)
 else
 (m65 F m.scope.atoms sc.atoms).bind fun y1=>
 bif (!y1) then
 some (true)
 else
 (m66 F sp m).bind fun y2=>
 bif (!y2) then
 some (true)
 else
 (m67 F b m).bind fun y3=>
 some ((!y3))).bind fun p4=>
 bif p4 then
 some (([],false))
 else
 (m55 F sp sc b).bind fun y6=>
 (m56 F y6).bind fun n=>
 (mkB n).bind fun out0=>
 (bif decide (1 < sc.steps) then
 wr n.toNat out0 (w64 (w64 (sc.steps - m.loop) - 1)) true
 else
 some out0).bind fun out1=>
 (m68 F y6 (st18 F m n.toNat) out1).bind fun out2=>
 bif Nat.beq out2.length n.toNat then some (out2,true) else none
theorem c18 (F:Nat) (sp:Spec) (sc:Scope) (b:List Bound) (m:Model) (res:(List Bool×Bool)) (hm:m18 F sp sc b m = some res) (h:List ABlk):ACall Tryz.prog 18 [sp.av,sc.av,AV.vw 4 (b.map Bound.av),m.av] h (.ret (AV.tup [AV.vw 1 (res.1.map AV.bool),AV.bool res.2])) h:=by
 unfold m18 at hm
 refine ACall.mir 3 Tryz.func18 rfl (.cons (Spec.apart _) (.cons (Scope.apart _) (.cons (.vw (ApartL.map fun _ _=>(Bound.apart _))) (.cons (Model.apart _) .nil)))) (nlst rfl) ?_ h
 show SX _ _ _ 84 _ _ _ _
 refine SX.seq (SX.rr rfl ?_)
 refine SX.seq (SX.seq ?_)
 obtain ⟨p4,hj,hm⟩:=bindE hm
 refine SX.join ([(2,AV.vw 4 (b.map Bound.av)),(4,AV.ptr 3 0 0 0),(5,AV.ptr 4 0 0 0),(7,AV.ptr 5 0 0 0),(8,AV.nils),(9,AV.bool false),(39,AV.bool p4)]) ([.resv,.resv,.resv,ABlk.row 0 4 [sp.av],ABlk.row 0 2 [sc.av],ABlk.row 0 4 [m.av]]) (SX.region ?_) ?_
 ·refine SOps.rn 6 rfl ?_
  refine SOps.splitM rfl rfl rfl rdNone hj (fun hj=>?_) (fun hj=>?_)
  ·refine SOps.re rfl ?_
   obtain rfl:=oj hj
   exact ⟨rfl,CutTo.sr rfl⟩
  ·refine SOps.rn 5 rfl ?_
   obtain ⟨y1,hy1,hj⟩:=bindE hj
   refine SOps.call rfl rfl rfl rfl rfl (c65 F m.scope.atoms sc.atoms y1 hy1 _) rdNone (SOps.rn 2 rfl ?_)
   refine SOps.splitM rfl rfl rfl rdNone hj (fun hj=>?_) (fun hj=>?_)
   ·refine SOps.re rfl ?_
    obtain rfl:=oj hj
    exact ⟨rfl,CutTo.sr rfl⟩
   ·refine SOps.rn 2 rfl ?_
    obtain ⟨y2,hy2,hj⟩:=bindE hj
    refine SOps.call rfl rfl rfl rfl rfl (c66 F sp m y2 hy2 _) rdNone (SOps.rn 2 rfl ?_)
    refine SOps.splitM rfl rfl rfl rdNone hj (fun hj=>?_) (fun hj=>?_)
    ·refine SOps.re rfl ?_
     obtain rfl:=oj hj
     exact ⟨rfl,CutTo.sr rfl⟩
    ·refine SOps.rn 2 rfl ?_
     obtain ⟨y3,hy3,hj⟩:=bindE hj
     refine SOps.call rfl rfl rfl rfl rfl (c67 F b m y3 hy3 _) rdNone (SOps.re rfl ?_)
     obtain rfl:=oj hj
     exact ⟨rfl,CutTo.sr rfl⟩
 refine SX.condM rfl rfl hm (fun ht hm=>?_) (fun ht hm=>?_)
 ·refine SX.seq (SX.rr rfl (SX.rt ?_))
  obtain rfl:=oj hm
  exact RetQ.mk (vs:=[AV.nils,AV.bool false]) rfl (.tup (.cons .nils (.cons (.apart .bool) .nil)))
 ·refine SX.sk (SX.seq (SX.rn 3 rfl ?_))
  obtain ⟨y6,hy6,hm⟩:=bindE hm
  refine SOps.call rfl rfl rfl rfl rfl (c55 F sp sc b y6 hy6 _) rdNone (SOps.re rfl (SX.seq ?_))
  obtain ⟨n,hn,hm⟩:=bindE hm
  obtain ⟨out0,ho0,hm⟩:=bindE hm
  by_cases hn0:n = 0
  ·have hk:n.toNat = 0:=by omega
   refine SX.rn 1 rfl (SOps.call rfl rfl rfl rfl rfl (c56 F y6 n hn _) rdNone (SOps.make0 (n:=n) (e:=4) (sz:=1) rfl rfl rfl rfl rfl hn0 rfl rfl rfl rfl rdNone (SOps.re rfl ?_)))
   refine SX.seq (SX.seq ?_)
   refine SX.rr rfl ?_
   obtain ⟨out1,hj,hm⟩:=bindE hm
   refine SX.join [(2,AV.vw 4 (b.map Bound.av)),(4,AV.ptr 3 0 0 0),(5,AV.ptr 4 0 0 0),(7,AV.ptr 5 0 0 0),(10,.rptr y6.av),(11,.ptr 6 0 0 0)] [.resv,.resv,.resv,.row 0 4 [sp.av],.row 0 2 [sc.av],.row 0 4 [m.av],.row 0 1 [.vw 1 []]] (SX.condM rfl rfl hj (fun ht hj=>?_) (fun ht hj=>?_)) ?_
   ·rw [hk,wr0] at hj; cases hj
   ·obtain rfl:=oj hj
    refine SX.sk ?_
    exact ⟨rfl,CutTo.sr rfl⟩
   refine SX.seq (SX.seq ?_)
   refine SX.rr rfl (SX.block ?_)
   obtain ⟨out2,hout2,hm⟩:=bindE hm
   refine SX.forget (al':=[(7,.ptr 5 0 0 0),(11,.ptr 6 0 0 0),(59,.func (.func 68) [.rptr y6.av] [])]) (leA_of rfl) ?_
   refine SX.rangeF 1 rfl rfl rfl rfl (c68 F y6 (st18 F m n.toNat) out1 out2 hout2 (lb:=1) (T:=fun (w:List Bool)=>[.loop .ready none (lst 84 [(7,.ptr 5 0 0 0),(11,.ptr 6 0 0 0),(59,.func (.func 68) [.rptr y6.av] [])]) #[60] _ _,.resv,.row 0 4 [sp.av],.row 0 2 [sc.av],.row 0 4 [m.av],.row 0 1 [.vw 1 []]]) (S:=S2) ?_ ?_ [ABlk.defr] ⟨.inl rfl,trivial⟩ rfl) rfl ?_
   ·refine ⟨fun u e u' hst own J rd o ρ df cl g hown hav hJ hd ho hc hg ha=>?_⟩
    rw [hk,st18_0] at hst
    cases hst
   ·intro w b hb
    rcases List.mem_cons.1 hb with rfl | hb
    ·exact avoid_lst (al:=[(7,.ptr 5 0 0 0),(11,.ptr 6 0 0 0),(59,.func (.func 68) [.rptr y6.av] [])]) ⟨rfl,rfl,⟨⟨Layout.avoid _ _,trivial⟩,trivial⟩,trivial⟩
    rcases List.mem_cons.1 hb with rfl | hb
    ·trivial
    rcases List.mem_cons.1 hb with rfl | hb
    ·exact ⟨Spec.avoid' _ _,trivial⟩
    rcases List.mem_cons.1 hb with rfl | hb
    ·exact ⟨Scope.avoid _ _,trivial⟩
    rcases List.mem_cons.1 hb with rfl | hb
    ·exact ⟨Model.avoid _ _,trivial⟩
    obtain rfl:=List.mem_singleton.1 hb
    exact ⟨trivial,trivial⟩
   ·refine SX.seq (SX.rr rfl (SX.rt ?_))
    obtain ⟨hlen,hm⟩:=beqE hm
    obtain rfl:=oj hm
    rw [hk] at hlen
    obtain rfl:=List.length_eq_zero_iff.1 hlen
    exact Ret.mkD (Pp:=[.resv,.loop .exhausted none (lst 84 [(7,.ptr 5 0 0 0),(11,.ptr 6 0 0 0),(59,.func (.func 68) [.rptr y6.av] [])]) #[60] _ _,.resv,.row 0 4 [sp.av],.row 0 2 [sc.av],.row 0 4 [m.av],.row 0 1 [.vw 1 []]]) (J:=[ABlk.defr]) (vs:=[.vw 1 [],.bool true])
     ⟨[],[],trivial,rfl,rfl,trivial⟩ (fun K hK=>rfl) (fun K hK=>.tup (.cons (FrozenV.apart (.vw .nil)) (.cons (.apart .bool) .nil)))
  ·have hpos:0 < n.toNat:=mkB_pos ho0 hn0
   refine SX.rn 1 rfl (SOps.call rfl rfl rfl rfl rfl (c56 F y6 n hn _) rdNone (SOps.heavy rfl rfl (heavyV_makeB (n:=n) (e:=4) rfl rfl rfl rfl rfl rfl ho0) rdNone (SOps.re rfl ?_)))
   refine SX.seq (SX.seq ?_)
   refine SX.rr rfl ?_
   obtain ⟨out1,hj,hm⟩:=bindE hm
   refine SX.join [(2,AV.vw 4 (b.map Bound.av)),(4,AV.ptr 3 0 0 0),(5,AV.ptr 4 0 0 0),(7,AV.ptr 5 0 0 0),(10,.rptr y6.av),(11,.ptr 7 0 0 0)] [.resv,.resv,.resv,.row 0 4 [sp.av],.row 0 2 [sc.av],.row 0 4 [m.av],.row 0 1 (out1.map AV.bool),.row 0 1 [.hsl 6 0 0 n.toNat (some n.toNat)]] (SX.condM rfl rfl hj (fun ht hj=>?_) (fun ht hj=>?_)) ?_
   ·obtain ⟨hw1,r,hw2,hw3⟩:=wrE hj
    refine SX.rn 7 rfl (SOps.light rfl rfl (lightV_idxM rfl rfl Tryz.underlying38 rfl rfl hw2) rdNone (SOps.heavy (v:=.poison) rfl rfl (heavyV_upd (f:=AV.bool) (v:=true) rfl rfl rfl rfl rfl (fun _=>rfl) (fun _=>rfl) hw3) rdNone (SOps.nil rdNone ?_)))
    exact ⟨rfl,CutTo.sr rfl⟩
   ·obtain rfl:=oj hj
    refine SX.sk ?_
    exact ⟨rfl,CutTo.sr rfl⟩
   refine SX.seq (SX.seq ?_)
   refine SX.rr rfl (SX.block ?_)
   obtain ⟨out2,hout2,hm⟩:=bindE hm
   refine SX.forget (al':=[(7,.ptr 5 0 0 0),(11,.ptr 7 0 0 0),(59,.func (.func 68) [.rptr y6.av] [])]) (leA_of rfl) ?_
   refine SX.rangeF 1 rfl rfl rfl rfl (c68 F y6 (st18 F m n.toNat) out1 out2 hout2 (lb:=1) (T:=fun (w:List Bool)=>[.loop .ready none (lst 84 [(7,.ptr 5 0 0 0),(11,.ptr 7 0 0 0),(59,.func (.func 68) [.rptr y6.av] [])]) #[60] _ _,.resv,.row 0 4 [sp.av],.row 0 2 [sc.av],.row 0 4 [m.av],.row 0 1 (w.map AV.bool),.row 0 1 [.hsl 6 0 0 n.toNat (some n.toNat)]]) (S:=S2) ?_ ?_ [ABlk.defr] ⟨.inl rfl,trivial⟩ rfl) rfl ?_
   ·refine ⟨fun u e u' hst own J rd o ρ df cl g hown hav hJ hd ho hc hg ha=>?_⟩
    obtain ⟨x0,rfl⟩:=List.length_eq_one_iff.1 hown
    simp only [st18] at hst
    obtain ⟨st,hs1,hst⟩:=bindE hst
    obtain ⟨rl,hs2,hst⟩:=bindE hst
    obtain ⟨p,hs3,hst⟩:=bindE hst
    obtain ⟨hw1,r,hw2,hw3⟩:=wrE hst
    apply AStep.unfill S2 (v:=.bool true) (hv:=trivial) (hd:=hd)
    ·apply AStep.yield ho hc hg
     rw [ha]
     refine ARound.of_SX (l:=1) (N:=84) (t:=60) (al:=[(7,.ptr 5 0 0 0),(11,.ptr 7 0 0 0),(59,.func (.func 68) [.rptr y6.av] [])]) (al1:=[(7,.ptr 5 0 0 0),(11,.ptr 7 0 0 0),(12,.ptr 2 0 0 0)])
      (h1:=[x0,.loop .ready none (lst 84 [(7,.ptr 5 0 0 0),(11,.ptr 7 0 0 0),(59,.func (.func 68) [.rptr y6.av] [])]) #[60] _ _,.row 0 4 [e.av],.row 0 4 [sp.av],.row 0 2 [sc.av],.row 0 4 [m.av],.row 0 1 (u.map AV.bool),.row 0 1 [.hsl 6 0 0 n.toNat (some n.toNat)]] ++ J) (h2:=[x0,.loop .busy none (lst 84 [(7,.ptr 5 0 0 0),(11,.ptr 7 0 0 0),(59,.func (.func 68) [.rptr y6.av] [])]) #[60] _ _,.row 0 4 [e.av],.row 0 4 [sp.av],.row 0 2 [sc.av],.row 0 4 [m.av],.row 0 1 (u'.map AV.bool),.row 0 1 [.hsl 6 0 0 n.toNat (some n.toNat)]] ++ J) (by decide) rfl ?_ rfl ?_ rfl
     ·refine SX.region (SOps.fill (v:=_) 2 rfl rfl rfl (rdS rfl) (SOps.heavy (v:=_) rfl rfl rfl (rdS rfl) ?_))
      refine SOps.nil (rdS rfl) ⟨rfl,rfl,.cons rfl (leA_of rfl),rfl⟩
     ·refine SX.block (SX.drawW 4194304 follows_mixed rfl rfl (rdS rfl) ?_)
      iterate 8 refine WO.light (v:=_) rfl rfl rfl (rdS rfl) ?_
      refine WO.light rfl rfl (lightV_idx (f:=rels) (xs:=m.states) rfl rfl Tryz.underlying35 rfl hs1) (rdS rfl) ?_
      iterate 3 refine WO.light (v:=_) rfl rfl rfl (rdS rfl) ?_
      refine WO.light rfl rfl (lightV_idx (f:=Rel.av) (xs:=st) rfl rfl Tryz.underlying78 rfl hs2) (rdS rfl) ?_
      iterate 4 refine WO.light (v:=_) rfl rfl rfl (rdS rfl) ?_
      refine WO.call rfl rfl rfl rfl rfl (c69 F rl.tuples e.rank p hs3 _) (rdS rfl) ?_
      iterate 3 refine WO.light (v:=_) rfl rfl rfl (rdS rfl) ?_
      refine WO.light rfl rfl (lightV_idxM rfl rfl Tryz.underlying38 rfl rfl hw2) (rdS rfl) (WO.heavy (v:=.poison) rfl rfl rfl (heavyV_upd (f:=AV.bool) (v:=p.2) rfl rfl rfl rfl rfl (fun _=>rfl) (fun _=>rfl) hw3) (rdS rfl) ?_)
      refine WO.nil ⟨rfl,rfl,rfl⟩
    ·intro b hb _
     obtain rfl:=S2_eq hb
     rfl
    ·refine Unfilled.pool (l:=[x0,.loop .ready none (lst 84 [(7,.ptr 5 0 0 0),(11,.ptr 7 0 0 0),(59,.func (.func 68) [.rptr y6.av] [])]) #[60] _ _,.row 0 4 [e.av],.row 0 4 [sp.av],.row 0 2 [sc.av],.row 0 4 [m.av],.row 0 1 (u'.map AV.bool),.row 0 1 [.hsl 6 0 0 n.toNat (some n.toNat)]])
      (aI (hav x0 (List.mem_singleton.2 rfl)) (aI (avoid_lst (al:=[(7,.ptr 5 0 0 0),(11,.ptr 7 0 0 0),(59,.func (.func 68) [.rptr y6.av] [])]) ⟨rfl,rfl,⟨⟨Layout.avoid _ _,trivial⟩,trivial⟩,trivial⟩) (aI trivial (aI (aI (Spec.avoid' _ _) trivial) (aI (aI (Scope.avoid _ _) trivial) (aI (aI (Model.avoid _ _) trivial) (aI (avoidL_map (fun _=>trivial)) (aI (aI rfl trivial) trivial)))))))) hJ (fun b hb=>S2_big b (by simp at hb; omega))
   ·intro w b hb
    rcases List.mem_cons.1 hb with rfl | hb
    ·exact avoid_lst (al:=[(7,.ptr 5 0 0 0),(11,.ptr 7 0 0 0),(59,.func (.func 68) [.rptr y6.av] [])]) ⟨rfl,rfl,⟨⟨Layout.avoid _ _,trivial⟩,trivial⟩,trivial⟩
    rcases List.mem_cons.1 hb with rfl | hb
    ·trivial
    rcases List.mem_cons.1 hb with rfl | hb
    ·exact ⟨Spec.avoid' _ _,trivial⟩
    rcases List.mem_cons.1 hb with rfl | hb
    ·exact ⟨Scope.avoid _ _,trivial⟩
    rcases List.mem_cons.1 hb with rfl | hb
    ·exact ⟨Model.avoid _ _,trivial⟩
    rcases List.mem_cons.1 hb with rfl | hb
    ·exact avoidL_map (fun _=>trivial)
    obtain rfl:=List.mem_singleton.1 hb
    exact ⟨rfl,trivial⟩
   ·refine SX.seq (SX.rr rfl (SX.rt ?_))
    obtain ⟨hlen,hm⟩:=beqE hm
    obtain rfl:=oj hm
    exact Ret.mkD (Pp:=[.resv,.loop .exhausted none (lst 84 [(7,.ptr 5 0 0 0),(11,.ptr 7 0 0 0),(59,.func (.func 68) [.rptr y6.av] [])]) #[60] _ _,.resv,.row 0 4 [sp.av],.row 0 2 [sc.av],.row 0 4 [m.av],.row 0 1 (out2.map AV.bool),.row 0 1 [.hsl 6 0 0 n.toNat (some n.toNat)]]) (J:=[ABlk.defr]) (vs:=[.hsl 6 0 0 n.toNat (some n.toNat),.bool true])
     ⟨[],[],trivial,rfl,rfl,trivial⟩ (fun K hK=>rfl) (fun K hK=>.tup (.cons (frozen_mut (n:=n) (xs:=out2) rfl (slcF_all hlen hpos) hpos (fun _=>.bool)) (.cons (.apart .bool) .nil)))
end Go.AL
namespace Go.AL
open Go
set_option maxRecDepth 4000
def slotsG (keep:Nat→Pair→Bool) (free:List Pair) (n:Nat):List (Nat×Pair):=(List.range n).flatMap fun s=>(free.filter (keep s)).map (Prod.mk s)
def keepP (sp:Spec) (s:Nat) (p:Pair):Bool:=Nat.beq s 0 || (sp.fields[p.fst.toNat]?).any Field.var
theorem slotsG_succ (keep:Nat→Pair→Bool) (free:List Pair) (n:Nat):slotsG keep free (n + 1) = slotsG keep free n ++ (free.filter (keep n)).map (Prod.mk n):=by
 unfold slotsG
 rw [List.range_succ,List.flatMap_append]
 simp
theorem slotsG_prefix (keep:Nat→Pair→Bool) (free:List Pair) (n d:Nat):slotsG keep free n <+: slotsG keep free (n + d):=by
 induction d with
 | zero=>exact List.prefix_refl _
 | succ d ih=>
  rw [← Nat.add_assoc,slotsG_succ]
  exact ih.trans (List.prefix_append _ _)
theorem slotsG_level {keep:Nat→Pair→Bool} {free:List Pair} {n s:Nat} (h:s < n):slotsG keep free s ++ (free.filter (keep s)).map (Prod.mk s) <+: slotsG keep free n:=by
 rw [← slotsG_succ]
 have:=slotsG_prefix keep free (s + 1) (n - (s + 1))
 rwa [show s + 1 + (n - (s + 1)) = n by omega] at this
theorem slotsG_mem {keep:Nat→Pair→Bool} {free:List Pair} {n s:Nat} {p:Pair}:(s,p) ∈ slotsG keep free n↔s < n∧p ∈ free∧keep s p = true:=by
 unfold slotsG
 simp only [List.mem_flatMap,List.mem_range,List.mem_map,List.mem_filter,Prod.mk.injEq]
 constructor
 ·rintro ⟨s',h1,p',⟨h2,h3⟩,rfl,rfl⟩
  exact ⟨h1,h2,h3⟩
 ·rintro ⟨h1,h2,h3⟩
  exact ⟨s,h1,p,⟨h2,h3⟩,rfl,rfl⟩
theorem slotsG_len (keep:Nat→Pair→Bool) (free:List Pair):∀ n,(slotsG keep free n).length≤n * free.length
 | 0=>by simp [slotsG]
 | n + 1=>by
  have:=slotsG_len keep free n
  have h:=List.length_filter_le (keep n) free
  rw [slotsG_succ,List.length_append,List.length_map,Nat.succ_mul]
  omega
theorem part_succ {keep:Nat→Pair→Bool} {free:List Pair} {s j:Nat} {p:Pair} (h:free[j]? = some p):((free.take (j + 1)).filter (keep s)).map (Prod.mk s) = ((free.take j).filter (keep s)).map (Prod.mk s) ++ (if keep s p then [(s,p)] else []):=by
 rw [List.take_add_one,h,List.filter_append,List.map_append]
 congr 1
 cases hk:keep s p <;> simp [hk]
theorem part_prefix {keep:Nat→Pair→Bool} {free:List Pair} {n s:Nat} (j:Nat) (h:s < n):slotsG keep free s ++ ((free.take j).filter (keep s)).map (Prod.mk s) <+: slotsG keep free n:=
 List.IsPrefix.trans ((List.prefix_append_right_inj _).2 (((List.take_prefix j free).filter _).map _)) (slotsG_level h)
def selN (steps:Int):Nat:=if 1 < steps then steps.toNat else 0
structure LayOk (l:Layout):Prop where
 steps:1≤l.scope.steps∧l.scope.steps≤4
 free:l.free.length≤1000
 fst:∀ p ∈ l.free,0≤p.fst∧p.fst < l.sp.fields.length
def Layout.slots (l:Layout):List (Nat×Pair):=slotsG (keepP l.sp) l.free l.scope.steps.toNat
theorem LayOk.len {l:Layout} (h:LayOk l):l.slots.length≤4000:=by
 have:=slotsG_len (keepP l.sp) l.free l.scope.steps.toNat
 have h1:=h.free
 have h2:=h.steps
 have h3:l.scope.steps.toNat * l.free.length≤4 * 1000:=Nat.mul_le_mul (by omega) h1
 unfold Layout.slots
 omega
section
variable {W:Type}
theorem e68i (l:Layout) (h:LayOk l) (step:Nat→W→Entry→Option W) (J:List (Nat×Pair)→W→Prop)
  (hstep:∀ (pre:List (Nat×Pair)) (s:Nat) (p:Pair) (w:W),(pre ++ [(s,p)]) <+: l.slots→J pre w→Ev (J (pre ++ [(s,p)])) (fun F=>step F w (Entry.mk ((selN l.scope.steps + pre.length + 1:Nat):Int) (s:Int) p.fst p.snd)))
  (s:Nat) (hs:s < l.scope.steps.toNat) (w0:W) (h0:J (slotsG (keepP l.sp) l.free s) w0) :
  Ev (fun r=>r.1 = ((selN l.scope.steps + (slotsG (keepP l.sp) l.free (s + 1)).length:Nat):Int)∧J (slotsG (keepP l.sp) l.free (s + 1)) r.2) (fun F=>m68i F l (step F) (s:Int) ((selN l.scope.steps + (slotsG (keepP l.sp) l.free s).length:Nat):Int) w0):=by
 have hst:=h.steps
 have hfl:=h.free
 have hln:=h.len
 have hsel:selN l.scope.steps≤4:=by unfold selN; split <;> omega
 unfold m68i
 refine Ev.bindS (fun (r:Int×W)=>r.1 = ((selN l.scope.steps + (slotsG (keepP l.sp) l.free (s + 1)).length:Nat):Int)∧J (slotsG (keepP l.sp) l.free (s + 1)) r.2) (fun _=>False) ?_ (fun x hx=>Ev.pure hx) (fun _ h=>h.elim)
 refine Ev.loop (T:=Int×W) l.free.length (fun j t=>((j:Int),t.1,t.2)) (fun j t=>t.1 = ((selN l.scope.steps + (slotsG (keepP l.sp) l.free s ++ ((l.free.take j).filter (keepP l.sp s)).map (Prod.mk s)).length:Nat):Int)∧J (slotsG (keepP l.sp) l.free s ++ ((l.free.take j).filter (keepP l.sp s)).map (Prod.mk s)) t.2) (t0:=(((selN l.scope.steps + (slotsG (keepP l.sp) l.free s).length:Nat):Int),w0)) rfl ⟨by simp,by simpa using h0⟩ (fun j t hj ht=>Ev.dt (Int.ofNat_lt.2 hj) ?_) (fun t ht=>Ev.df (Int.lt_irrefl _) (Ev.pure ?_))
 ·obtain ⟨v,w⟩:=t
  obtain ⟨hv,hJ⟩:=ht
  simp only at hv hJ
  obtain ⟨p,hp⟩:=getE hj
  have hpf:=h.fst p (List.mem_of_getElem? hp)
  obtain ⟨f,hf⟩:=getE (l:=l.sp.fields) (i:=p.fst.toNat) (by omega)
  have hkeep:keepP l.sp s p = (Nat.beq s 0 || f.var):=by simp [keepP,hf]
  have hps:=part_succ (keep:=keepP l.sp) (s:=s) hp
  have hpre:=(part_prefix (keep:=keepP l.sp) (free:=l.free) j hs)
  have hpl:=hpre.length_le
  have hsl:(slotsG (keepP l.sp) l.free l.scope.steps.toNat).length≤4000:=hln
  refine Ev.ixb hp (Ev.bind (P:=fun skip=>skip = !keepP l.sp s p) ?_ (fun skip hskip=>?_))
  ·refine Ev.dec (fun h1=>Ev.ixi hpf.1 hf (Ev.pure ?_)) (fun h1=>Ev.pure ?_)
   ·have:Nat.beq s 0 = false:=by
     cases s with
     | zero=>simp at h1
     | succ s=>rfl
    rw [hkeep,this]; rfl
   ·have:Nat.beq s 0 = true:=by
     cases s with
     | zero=>rfl
     | succ s=>exact absurd (show (0:Int) < ((s + 1:Nat):Int) by omega) h1
    rw [hkeep,this]; rfl
  subst hskip
  refine Ev.ite (fun h1=>Ev.pure ⟨(v,w),by rw [w64_succ (by omega)],?_⟩) (fun h1=>?_)
  ·have hk:keepP l.sp s p = false:=by simpa using h1
   rw [hps,hk,if_neg Bool.false_ne_true,List.append_nil]
   exact ⟨hv,hJ⟩
  ·have hk:keepP l.sp s p = true:=by simpa using h1
   have hpre2:=part_prefix (keep:=keepP l.sp) (free:=l.free) (j + 1) hs
   have e:slotsG (keepP l.sp) l.free s ++ ((l.free.take (j + 1)).filter (keepP l.sp s)).map (Prod.mk s) = (slotsG (keepP l.sp) l.free s ++ ((l.free.take j).filter (keepP l.sp s)).map (Prod.mk s)) ++ [(s,p)]:=by
    rw [List.append_assoc]; congr 1
    have:=part_succ (keep:=keepP l.sp) (s:=s) hp
    rw [this,hk]; rfl
   have hw:w64 (v + 1) = ((selN l.scope.steps + (slotsG (keepP l.sp) l.free s ++ ((l.free.take j).filter (keepP l.sp s)).map (Prod.mk s)).length + 1:Nat):Int):=by
    rw [hv,w64_succ (by omega)]
   show Ev _ (fun F=>(step F w (Entry.mk (w64 (v + 1)) (s:Int) p.fst p.snd)).bind fun u=>some (Out.next (w64 ((j:Int) + 1),w64 (v + 1),u)))
   rw [hw]
   rw [e] at hpre2
   refine Ev.bind (hstep _ s p w hpre2 hJ) (fun u hu=>Ev.pure ⟨(_,u),by rw [w64_succ (by omega)],?_⟩)
   rw [e]
   have hA1:∀ A:List (Nat×Pair),((selN l.scope.steps + A.length + 1:Nat):Int) = ((selN l.scope.steps + (A ++ [(s,p)]).length:Nat):Int):=fun A=>by
    rw [List.length_append]; rfl
   exact ⟨hA1 _,hu⟩
 ·obtain ⟨v,w⟩:=t
  rw [List.take_length,← slotsG_succ] at ht
  exact ht
theorem e68 (l:Layout) (h:LayOk l) (step:Nat→W→Entry→Option W) (J:List (Nat×Pair)→W→Prop) (w0:W) (h0:J [] w0)
  (hstep:∀ (pre:List (Nat×Pair)) (s:Nat) (p:Pair) (w:W),(pre ++ [(s,p)]) <+: l.slots→J pre w→Ev (J (pre ++ [(s,p)])) (fun F=>step F w (Entry.mk ((selN l.scope.steps + pre.length + 1:Nat):Int) (s:Int) p.fst p.snd))) :
  Ev (J l.slots) (fun F=>m68 F l (step F) w0):=by
 have hst:=h.steps
 have hsel:(bif decide (1 < l.scope.steps) then l.scope.steps else 0) = ((selN l.scope.steps:Nat):Int):=by
  unfold selN
  by_cases hc:1 < l.scope.steps
  ·simp [hc]; omega
  ·simp [hc]
 unfold m68
 rw [hsel]
 refine Ev.bindS (fun r=>J l.slots r) (fun _=>False) ?_ (fun x hx=>Ev.pure hx) (fun _ h=>h.elim)
 refine Ev.loop (T:=Int×W) l.scope.steps.toNat (fun j t=>((j:Int),t.1,t.2)) (fun j t=>t.1 = ((selN l.scope.steps + (slotsG (keepP l.sp) l.free j).length:Nat):Int)∧J (slotsG (keepP l.sp) l.free j) t.2) (t0:=(((selN l.scope.steps:Nat):Int),w0)) rfl ⟨by simp [slotsG],by simpa [slotsG] using h0⟩ (fun j t hj ht=>Ev.dt (by omega) ?_) (fun t ht=>Ev.df (by omega) (Ev.pure ht.2))
 obtain ⟨v,w⟩:=t
 obtain ⟨hv,hJ⟩:=ht
 simp only at hv hJ
 subst hv
 refine Ev.bind (e68i l h step J hstep j hj w hJ) (fun r hr=>Ev.pure ⟨r,by rw [w64_succ (by omega)],hr⟩)
end
theorem e56 (l:Layout) (h:LayOk l):Ev (fun r=>r = ((selN l.scope.steps + l.slots.length:Nat):Int)) (fun F=>m56 F l):=by
 have hsel:(bif decide (1 < l.scope.steps) then l.scope.steps else 0) = ((selN l.scope.steps:Nat):Int):=by
  have hst:=h.steps
  unfold selN
  by_cases hc:1 < l.scope.steps
  ·simp [hc]; omega
  ·simp [hc]
 unfold m56
 rw [hsel]
 exact e68 l h (fun _ _ e=>some e.variable_) (fun pre w=>w = ((selN l.scope.steps + pre.length:Nat):Int)) _ (by simp) (fun pre s p w _ _=>Ev.pure (by simp only [List.length_append,List.length_singleton]; omega))
def relAt (m:Model) (s k:Nat):Rel:=(((m.states[s]?).getD [])[k]?).getD ⟨0,[]⟩
def hasB (m:Model) (x:Nat×Pair):Bool:=decide (x.2.snd ∈ (relAt m x.1 x.2.fst.toNat).tuples)
def loopL (n k:Nat):List Bool:=if 1 < n then (List.replicate n false).set (n - k - 1) true else []
def encL (sp:Spec) (b:List Bound) (m:Model):List Bool:=loopL m.scope.steps.toNat m.loop.toNat ++ (slotsG (keepP sp) (frees b) m.scope.steps.toNat).map (hasB m)
theorem Ev.wr {n:Nat} {w:List Bool} {i:Int} {v:Bool} (hl:w.length = n) (h0:0≤i) (h1:i < n):Ev (fun r=>r = w.set i.toNat v) (fun _=>Go.AL.wr n w i v):=⟨_,rfl,0,fun _ _=>by
 subst hl
 have h2:Nat.blt i.toNat w.length = true:=by
  rw [Nat.blt_eq]; omega
 simp [Go.AL.wr,Go.AL.inr,Go.AL.updO,h0,h1,h2]⟩
theorem Ev.mkB {n:Nat} (h:n < 1073741824):Ev (fun r=>r = List.replicate n false) (fun _=>Go.AL.mkB (n:Int)):=⟨_,rfl,0,fun _ _=>by
 have:(0:Int)≤n∧(n:Int) < 1073741824:=by omega
 unfold Go.AL.mkB
 rw [decide_eq_true this]
 simp⟩
theorem set_end {α:Type} (x v:α) (B:List α):∀ A:List α,(A ++ x :: B).set A.length v = A ++ v :: B
 | []=>rfl
 | a :: A=>by simp [set_end x v B A]
theorem loopL_len (n k:Nat):(loopL n k).length = selN (n:Int):=by
 unfold loopL selN
 by_cases h:1 < n
 ·rw [if_pos h,if_pos (by omega)]; simp
 ·rw [if_neg h,if_neg (by omega)]; rfl
def EncOk (sp:Spec) (sc:Scope) (b:List Bound) (m:Model):Prop:=m.scope.steps = sc.steps∧m.scope.atoms = sc.atoms∧ModelOk sp m∧ContB b m
theorem FitsOk.layOk {sp:Spec} {sc:Scope} {b:List Bound} (h:FitsOk sp sc b):LayOk ⟨sc,sp,b,frees b⟩:=by
 have h6:=h.spok.fields
 have hl:=h.len
 refine ⟨h.steps,?_,fun p hp=>?_⟩
 ·have:=freesU_len (b:=b) (fun x hx=>(h.small x hx).2) b.length
  show (freesU b b.length).length≤1000
  omega
 ·obtain ⟨i,x,h1,h2,_⟩:=frees_mem.1 hp
  have:=getLt h1
  show 0≤p.fst∧p.fst < sp.fields.length
  omega
theorem e55 {sp:Spec} {sc:Scope} {b:List Bound} (h:FitsOk sp sc b):Ev (fun r=>r = ⟨sc,sp,b,frees b⟩) (fun F=>m55 F sp sc b):=by
 unfold m55
 refine Ev.bind (e104 b ?_ h.small h.sorted) (fun y hy=>Ev.pure (by rw [hy]))
 have h6:=h.spok.fields
 have hl:=h.len
 omega
theorem relAt_eq {m:Model} {s k:Nat} {st:List Rel} {r:Rel} (h1:m.states[s]? = some st) (h2:st[k]? = some r):relAt m s k = r:=by
 unfold relAt; rw [h1]; simp [h2]
theorem e18 {sp:Spec} {sc:Scope} {b:List Bound} (hs:SpSm sp) (h:FitsOk sp sc b) (hb:BdSm b) (m:Model) (hm:MoSm m) :
  Ev (fun r=>(EncOk sp sc b m→r = (encL sp b m,true))∧(¬ EncOk sp sc b m→r = ([],false))) (fun F=>m18 F sp sc b m):=by
 unfold m18
 refine Ev.bind (P:=fun p=>p = false↔EncOk sp sc b m) ?_ (fun p hp=>?_)
 ·refine Ev.ite (fun h1=>Ev.pure ⟨fun h=>(by cases h),fun h2=>?_⟩) (fun h1=>?_)
  ·rw [h2.1] at h1; simp at h1
  refine Ev.bind (e65 _ _ hm.atoms) (fun y1 hy1=>Ev.ite (fun h2=>Ev.pure ⟨fun h=>(by cases h),fun h3=>?_⟩) (fun h2=>?_))
  ·rw [hy1.2 h3.2.1] at h2; cases h2
  refine Ev.bind (e66 sp hs h.spok m hm) (fun y2 hy2=>Ev.ite (fun h3=>Ev.pure ⟨fun h=>(by cases h),fun h4=>?_⟩) (fun h3=>?_))
  ·rw [hy2.2 h4.2.2.1] at h3; cases h3
  refine Ev.bind (e67 b m hb hm) (fun y3 hy3=>Ev.pure ⟨fun h4=>⟨by simpa using h1,hy1.1 (bnot_t h2),hy2.1 (bnot_t h3),hy3.1 (bnot_t h4)⟩,fun h4=>?_⟩)
  rw [hy3.2 h4.2.2.2]; rfl
 refine Ev.ite (fun h1=>Ev.pure ⟨fun h2=>?_,fun _=>rfl⟩) (fun h1=>?_)
 ·rw [hp.2 h2] at h1; cases h1
 have hok:=hp.1 h1
 obtain ⟨k1,k2,k3,k4⟩:=hok
 have hst:=h.steps
 have hlp:=k3.loop
 have hly:=h.layOk
 refine Ev.mono (P:=fun r=>r = (encL sp b m,true)) ?_ (fun r hr=>⟨fun _=>hr,fun hn=>(hn ⟨k1,k2,k3,k4⟩).elim⟩)
 refine Ev.bind (e55 h) (fun y6 hy6=>?_)
 subst hy6
 refine Ev.bind (e56 _ hly) (fun n hn=>?_)
 have hln:=hly.len
 have hN:m.scope.steps.toNat = sc.steps.toNat:=by rw [k1]
 have hsel:selN ((sc.steps.toNat:Nat):Int) = selN sc.steps:=by rw [Int.toNat_of_nonneg (by omega)]
 have hsel4:selN sc.steps≤4:=by unfold selN; split <;> omega
 show Ev _ (fun F=>(Go.AL.mkB n).bind fun out0=>(bif decide (1 < sc.steps) then Go.AL.wr n.toNat out0 (w64 (w64 (sc.steps - m.loop) - 1)) true else some out0).bind fun out1=>(m68 F (⟨sc,sp,b,frees b⟩:Layout) (st18 F m n.toNat) out1).bind fun out2=>bif Nat.beq out2.length n.toNat then some (out2,true) else none)
 have hslots:(⟨sc,sp,b,frees b⟩:Layout).slots = slotsG (keepP sp) (frees b) sc.steps.toNat:=rfl
 generalize hK:(⟨sc,sp,b,frees b⟩:Layout).slots.length = K at hn hln
 have hn':n = ((selN sc.steps + K:Nat):Int):=hn
 subst hn'
 rw [Int.toNat_natCast]
 refine Ev.bind (Ev.mkB (by omega)) (fun out0 hout0=>?_)
 refine Ev.bind (P:=fun o=>o = loopL sc.steps.toNat m.loop.toNat ++ List.replicate K false) ?_ (fun out1 hout1=>?_)
 ·refine Ev.dec (fun h2=>?_) (fun h2=>Ev.pure ?_)
  ·have hs1:selN sc.steps = sc.steps.toNat:=by unfold selN; rw [if_pos h2]
   rw [w64_id (x:=sc.steps - m.loop) (by omega) (by omega),w64_id (by omega) (by omega)]
   refine (Ev.wr (by rw [hout0]; simp) (by omega) (by omega)).mono fun o ho=>?_
   rw [ho,hout0,hs1,← List.replicate_append_replicate,List.set_append_left _ _ (by simp; omega)]
   unfold loopL
   rw [if_pos (by omega)]
   congr 2
   omega
  ·have hs1:selN sc.steps = 0:=by unfold selN; rw [if_neg h2]
   rw [hout0,hs1]
   unfold loopL
   rw [if_neg (by omega)]
   simp
 ·refine Ev.bind (e68 (W:=List Bool) ⟨sc,sp,b,frees b⟩ hly (fun F=>st18 F m (selN sc.steps + K)) (fun pre w=>w = (loopL sc.steps.toNat m.loop.toNat ++ pre.map (hasB m)) ++ List.replicate (K - pre.length) false) out1 (by simpa using hout1) (fun pre s p w hpre hw=>?_)) (fun out2 hout2=>?_)
  ·have hpl:=hpre.length_le
   rw [hK,List.length_append,List.length_singleton] at hpl
   have hmem:(s,p) ∈ slotsG (keepP sp) (frees b) sc.steps.toNat:=hpre.subset (by simp)
   obtain ⟨q1,q2,_⟩:=slotsG_mem.1 hmem
   have hlen:=k3.len
   obtain ⟨st,hsts⟩:=getE (l:=m.states) (i:=s) (by omega)
   have hstm:=List.mem_of_getElem? hsts
   have hpf:=hly.fst p q2
   have hpf:0≤p.fst∧p.fst < sp.fields.length:=hpf
   have hsl:=k3.state st hstm
   obtain ⟨r,hr⟩:=getE (l:=st) (i:=p.fst.toNat) (by omega)
   obtain ⟨f,hf⟩:=getE (l:=sp.fields) (i:=p.fst.toNat) (by omega)
   obtain ⟨_,r',g1,g2,_⟩:=k3.rel _ f hf st hstm
   rw [hr] at g1; cases g1
   have hrl:=hm.rels st hstm r (List.mem_of_getElem? hr)
   unfold st18
   refine Ev.ixb hsts (Ev.ixi hpf.1 hr (Ev.bind (e69 r.tuples hrl p.snd) (fun q hq=>?_)))
   have hqb:q.2 = hasB m (s,p):=by
    unfold hasB
    simp only [relAt_eq hsts hr]
    by_cases hmem:p.snd ∈ r.tuples
    ·rw [hq.2 g2.ok.sorted hmem]; simp [hmem]
    ·cases hc:q.2 with
     | true=>exact (hmem (hq.1 hc)).elim
     | false=>simp [hmem]
   have hll:=loopL_len sc.steps.toNat m.loop.toNat
   rw [hsel] at hll
   have hwl:w.length = selN sc.steps + K:=by
    rw [hw]
    simp only [List.length_append,List.length_map,List.length_replicate,hll]
    omega
   show Ev _ (fun F=>Go.AL.wr (selN sc.steps + K) w (w64 (((selN sc.steps + pre.length + 1:Nat):Int) - 1)) q.2)
   rw [w64_id (by omega) (by omega)]
   refine (Ev.wr hwl (by omega) (by omega)).mono fun o ho=>?_
   have e1:(((selN sc.steps + pre.length + 1:Nat):Int) - 1).toNat = (loopL sc.steps.toNat m.loop.toNat ++ pre.map (hasB m)).length:=by
    rw [List.length_append,List.length_map,hll]; omega
   have e2:K - pre.length = (K - (pre ++ [(s,p)]).length) + 1:=by
    rw [List.length_append,List.length_singleton]; omega
   rw [ho,e1,hw,e2,List.replicate_succ,set_end,hqb,List.map_append,List.map_singleton]
   simp
  ·have hl2:out2 = encL sp b m:=by
    rw [hout2,hK]
    unfold encL
    rw [hN,hslots]
    simp
   have hlen2:out2.length = selN sc.steps + K:=by
    rw [hl2]
    unfold encL
    rw [List.length_append,List.length_map,loopL_len,hN,hsel,← hslots,hK]
   rw [hlen2]
   refine Ev.it (Nat.beq_refl _) (Ev.pure (by rw [hl2]))
def firstDiff:List (Bool×Bool)→Int
 | []=>0
 | (a,b) :: l=>bif a == b then firstDiff l else bif b then -1 else 1
theorem firstDiff_append:∀ (P Q:List (Bool×Bool)),firstDiff (P ++ Q) = if firstDiff P = 0 then firstDiff Q else firstDiff P
 | [],Q=>by simp [firstDiff]
 | (a,b) :: P,Q=>by
  have ih:=firstDiff_append P Q
  cases a <;> cases b <;> simp [firstDiff,ih]
theorem firstDiff_prefix {P Q:List (Bool×Bool)} (h:P <+: Q) (h0:firstDiff P ≠ 0):firstDiff Q = firstDiff P:=by
 obtain ⟨R,rfl⟩:=h
 rw [firstDiff_append,if_neg h0]
theorem firstDiff_zero:∀ {P:List (Bool×Bool)},firstDiff P = 0↔∀ x ∈ P,x.1 = x.2
 | []=>by simp [firstDiff]
 | (a,b) :: P=>by
  have ih:=firstDiff_zero (P:=P)
  cases a <;> cases b <;> simp [firstDiff,ih]
theorem firstDiff_filter {α:Type} (f:α→Bool×Bool) (k:α→Bool):∀ (l:List α),(∀ x ∈ l,k x = false→(f x).1 = (f x).2)→firstDiff ((l.filter k).map f) = firstDiff (l.map f)
 | [],_=>rfl
 | a :: l,h=>by
  have ih:=firstDiff_filter f k l (fun x hx=>h x (by simp [hx]))
  cases hk:k a with
  | true=>
   rw [List.filter_cons_of_pos hk,List.map_cons,List.map_cons]
   simp only [firstDiff,ih]
  | false=>
   have:=h a (by simp) hk
   rw [List.filter_cons_of_neg (by simp [hk]),List.map_cons,ih]
   simp [firstDiff,this]
theorem drop_get {α:Type} {l:List α} {i:Nat} {x:α} (h:l[i]? = some x):l.drop i = x :: l.drop (i + 1):=by
 obtain ⟨h1,h2⟩:=List.getElem?_eq_some_iff.1 h
 rw [List.drop_eq_getElem_cons h1,h2]
theorem e30 (a b:List Bool) (hl:a.length = b.length) (ha:a.length≤LIM):Ev (fun r=>r = firstDiff (a.zip b)) (fun F=>m30 F a b):=by
 simp only [LIM] at ha
 unfold m30
 refine Ev.bindS (fun (_:Unit)=>firstDiff (a.zip b) = 0) (fun r=>r = firstDiff (a.zip b)) ?_ (fun _ hx=>Ev.pure hx.symm) (fun r hr=>Ev.pure hr)
 refine Ev.loop (T:=Unit) a.length (fun i _=>(i:Int)) (fun i _=>firstDiff (a.zip b) = firstDiff ((a.drop i).zip (b.drop i))) (t0:=()) rfl (by simp) (fun i _ hi hA=>?_) (fun _ hA=>?_)
 ·obtain ⟨x,hx⟩:=getE hi
  obtain ⟨y,hy⟩:=getE (show i < b.length by omega)
  rw [drop_get hx,drop_get hy,List.zip_cons_cons] at hA
  refine Ev.bind (P:=fun p=>p = true) (Ev.dt (Int.ofNat_lt.2 hi) (Ev.pure (decide_eq_true (by omega)))) (fun p hp=>Ev.it hp (Ev.ixb hx (Ev.ixb hy ?_)))
  refine Ev.ite (fun h1=>Ev.ixb hy (Ev.ite (fun h2=>Ev.pure ?_) (fun h2=>Ev.pure ?_))) (fun h1=>Ev.pure ⟨(),by rw [w64_succ (by omega)],?_⟩)
  ·show (-1:Int) = _
   rw [hA]; revert h1 h2; cases x <;> cases y <;> simp [firstDiff]
  ·show (1:Int) = _
   rw [hA]; revert h1 h2; cases x <;> cases y <;> simp [firstDiff]
  ·rw [hA]; revert h1; cases x <;> cases y <;> simp [firstDiff]
 ·refine Ev.bind (P:=fun p=>p = false) (Ev.df (Int.lt_irrefl _) (Ev.pure rfl)) (fun p hp=>Ev.if hp (Ev.pure ?_))
  rw [List.drop_length] at hA
  show firstDiff (a.zip b) = 0
  simpa [firstDiff] using hA
def two (x y:Model) (p:Nat×Pair):Bool×Bool:=(hasB x p,hasB y p)
theorem e70b (r:Rel) (hl:r.tuples.length≤LIM) (hs:SortedL r.tuples) (k:Int):Ev (fun b=>b = decide (k ∈ r.tuples)) (fun F=>m70 F r k):=(e70 r hl k).mono fun b hb=>by
 by_cases hmem:k ∈ r.tuples
 ·rw [hb.2 hs hmem]; simp [hmem]
 ·cases hc:b with
  | true=>exact (hmem (hb.1 hc)).elim
  | false=>simp [hmem]
theorem ModelOk.get {sp:Spec} {m:Model} (h:ModelOk sp m) {s:Nat} (hs:s < m.scope.steps.toNat) {k:Nat} (hk:k < sp.fields.length):∃ st r f,m.states[s]? = some st∧st[k]? = some r∧sp.fields[k]? = some f∧RelAt m.scope f r∧(f.var = false→∃ st0,m.states[0]? = some st0∧st0[k]? = some r):=by
 have hlen:=h.len
 obtain ⟨st,hsts⟩:=getE (l:=m.states) (i:=s) (by omega)
 obtain ⟨f,hf⟩:=getE hk
 obtain ⟨_,r,g1,g2,g3⟩:=h.rel k f hf st (List.mem_of_getElem? hsts)
 exact ⟨st,r,f,hsts,g1,hf,g2,g3⟩
theorem e31 {sp:Spec} {sc:Scope} {b:List Bound} (h:FitsOk sp sc b) (x y:Model) (hx:ModelOk sp x) (hy:ModelOk sp y) (hsx:x.scope.steps = sc.steps) (hsy:y.scope.steps = sc.steps) (hmx:MoSm x) (hmy:MoSm y) :
  Ev (fun r=>r = if x.loop = y.loop then firstDiff ((slotsG (fun _ _=>true) (frees b) sc.steps.toNat).map (two x y)) else if x.loop < y.loop then -1 else 1) (fun F=>m31 F b x y):=by
 have hst:=h.steps
 have hly:=h.layOk
 have hfl:(frees b).length≤1000:=hly.free
 have hxl:=hx.len
 have hyl:=hy.len
 unfold m31
 refine Ev.ite (fun h1=>?_) (fun h1=>?_)
 ·have h1:¬ x.loop = y.loop:=by simpa using h1
  rw [if_neg h1]
  exact Ev.dec (fun h2=>Ev.pure (by rw [if_pos h2])) (fun h2=>Ev.pure (by rw [if_neg h2]))
 have h1:x.loop = y.loop:=by simpa using h1
 rw [if_pos h1]
 refine Ev.bind (e53 b ?_ h.small) (fun y1 hy1=>?_)
 ·have h6:=h.spok.fields
  have hl:=h.len
  omega
 subst hy1
 refine Ev.bindS (fun (_:Unit)=>firstDiff ((slotsG (fun _ _=>true) (frees b) sc.steps.toNat).map (two x y)) = 0) (fun r=>r = firstDiff ((slotsG (fun _ _=>true) (frees b) sc.steps.toNat).map (two x y))) ?_ (fun _ hx=>Ev.pure hx.symm) (fun r hr=>Ev.pure hr)
 refine Ev.loop (T:=Unit) sc.steps.toNat (fun i _=>(i:Int)) (fun i _=>firstDiff ((slotsG (fun _ _=>true) (frees b) i).map (two x y)) = 0) (t0:=()) rfl rfl (fun s _ hs hA=>?_) (fun _ hA=>?_)
 ·refine Ev.bind (P:=fun p=>p = true) (Ev.dt (by omega) (Ev.pure (decide_eq_true (by omega)))) (fun p hp=>Ev.it hp ?_)
  refine Ev.bindS (fun (_:Unit)=>firstDiff ((slotsG (fun _ _=>true) (frees b) (s + 1)).map (two x y)) = 0) (fun r=>r = firstDiff ((slotsG (fun _ _=>true) (frees b) sc.steps.toNat).map (two x y))) ?_ (fun _ hx=>Ev.pure ⟨(),by rw [w64_succ (by omega)],hx⟩) (fun r hr=>Ev.pure hr)
  refine Ev.each (n:=(frees b).length) (by omega) (fun j=>firstDiff ((slotsG (fun _ _=>true) (frees b) s ++ (((frees b).take j).filter (fun _=>true)).map (Prod.mk s)).map (two x y)) = 0) (by simpa using hA) (fun j hj hB=>?_) (fun hB=>?_)
  ·obtain ⟨p,hp⟩:=getE hj
   have hpf:0≤p.fst∧p.fst < sp.fields.length:=hly.fst p (List.mem_of_getElem? hp)
   obtain ⟨st,r,f,g1,g2,g3,g4,_⟩:=hx.get (s:=s) (by omega) (k:=p.fst.toNat) (by omega)
   obtain ⟨st',r',f',g1',g2',g3',g4',_⟩:=hy.get (s:=s) (by omega) (k:=p.fst.toNat) (by omega)
   have hrl:=hmx.rels st (List.mem_of_getElem? g1) r (List.mem_of_getElem? g2)
   have hrl':=hmy.rels st' (List.mem_of_getElem? g1') r' (List.mem_of_getElem? g2')
   have eb:two x y (s,p) = (decide (p.snd ∈ r.tuples),decide (p.snd ∈ r'.tuples)):=by
    unfold two hasB
    simp only [relAt_eq g1 g2,relAt_eq g1' g2']
   have hps:=part_succ (keep:=fun _ _=>true) (s:=s) hp
   rw [if_pos rfl] at hps
   have hpre:=part_prefix (keep:=fun _ _=>true) (free:=frees b) (j + 1) hs
   rw [hps] at hpre
   have hD:firstDiff ((slotsG (fun _ _=>true) (frees b) s ++ ((((frees b).take j).filter (fun _=>true)).map (Prod.mk s) ++ [(s,p)])).map (two x y)) = firstDiff [two x y (s,p)]:=by
    rw [← List.append_assoc,List.map_append,firstDiff_append,if_pos hB]; rfl
   refine Ev.ixb g1 (Ev.ixb hp (Ev.ixi hpf.1 g2 (Ev.ixb hp (Ev.bind (e70b r hrl g4.ok.sorted p.snd) (fun y14 hy14=>Ev.ixb g1' (Ev.ixb hp (Ev.ixi hpf.1 g2' (Ev.ixb hp (Ev.bind (e70b r' hrl' g4'.ok.sorted p.snd) (fun y19 hy19=>?_))))))))))
   rw [← hy14,← hy19] at eb
   rw [eb] at hD
   refine Ev.ite (fun h2=>Ev.ite (fun h3=>Ev.pure ?_) (fun h3=>Ev.pure ?_)) (fun h2=>Ev.pure ⟨rfl,?_⟩)
   ·have e1:firstDiff [(y14,y19)] = -1:=by revert h2 h3; cases y14 <;> cases y19 <;> simp [firstDiff]
    rw [e1] at hD
    show (-1:Int) = _
    rw [firstDiff_prefix (hpre.map (two x y)) (by rw [hD]; decide),hD]
   ·have e1:firstDiff [(y14,y19)] = 1:=by revert h2 h3; cases y14 <;> cases y19 <;> simp [firstDiff]
    rw [e1] at hD
    show (1:Int) = _
    rw [firstDiff_prefix (hpre.map (two x y)) (by rw [hD]; decide),hD]
   ·have e1:firstDiff [(y14,y19)] = 0:=by revert h2; cases y14 <;> cases y19 <;> simp [firstDiff]
    rw [e1] at hD
    rw [hps]; exact hD
  ·show firstDiff _ = 0
   rw [List.take_length,← slotsG_succ] at hB
   exact hB
 ·exact Ev.bind (P:=fun p=>p = false) (Ev.df (by omega) (Ev.pure rfl)) (fun p hp=>Ev.if hp (Ev.pure hA))
theorem loop_order:∀ n,n≤4→∀ a,a < n→∀ b,b < n→firstDiff ((loopL n a).zip (loopL n b)) = if a = b then 0 else if a < b then -1 else 1:=by decide
theorem enc_order {sp:Spec} {sc:Scope} {b:List Bound} (h:FitsOk sp sc b) (x y:Model) (hx:ModelOk sp x) (hy:ModelOk sp y) (hsx:x.scope.steps = sc.steps) (hsy:y.scope.steps = sc.steps) :
  firstDiff ((encL sp b x).zip (encL sp b y)) = if x.loop = y.loop then firstDiff ((slotsG (fun _ _=>true) (frees b) sc.steps.toNat).map (two x y)) else if x.loop < y.loop then -1 else 1:=by
 have hst:=h.steps
 have hlx:=hx.loop
 have hly:=hy.loop
 have hl:=loop_order sc.steps.toNat (by omega) x.loop.toNat (by omega) y.loop.toNat (by omega)
 unfold encL
 rw [hsx,hsy,List.zip_append (by rw [loopL_len,loopL_len]),firstDiff_append,hl]
 by_cases e:x.loop = y.loop
 ·rw [if_pos e,if_pos (show x.loop.toNat = y.loop.toNat by rw [e]),if_pos rfl,List.zip_map']
  show firstDiff ((slotsG (keepP sp) (frees b) sc.steps.toNat).map (two x y)) = _
  have hlev0:∀ keep:Nat→Pair→Bool,(∀ p,keep 0 p = true)→(slotsG keep (frees b) 1) = (frees b).map (Prod.mk 0):=fun keep hk=>by
   have:=slotsG_succ keep (frees b) 0
   rw [this]
   have e1:slotsG keep (frees b) 0 = []:=rfl
   rw [e1,List.nil_append,List.filter_eq_self.2 (fun p _=>hk p)]
  have h01:=hlev0 (keepP sp) (fun p=>rfl)
  have h02:=hlev0 (fun _ _=>true) (fun p=>rfl)
  have hp1:=slotsG_prefix (keepP sp) (frees b) 1 (sc.steps.toNat - 1)
  have hp2:=slotsG_prefix (fun _ _=>true) (frees b) 1 (sc.steps.toNat - 1)
  rw [show 1 + (sc.steps.toNat - 1) = sc.steps.toNat by omega] at hp1 hp2
  rw [h01] at hp1
  rw [h02] at hp2
  by_cases hD:firstDiff (((frees b).map (Prod.mk 0)).map (two x y)) = 0
  ·have heq:=firstDiff_zero.1 hD
   have heq:∀ p ∈ frees b,hasB x (0,p) = hasB y (0,p):=fun p hp=>heq _ (List.mem_map.2 ⟨(0,p),List.mem_map.2 ⟨p,hp,rfl⟩,rfl⟩)
   have key:∀ n,n≤sc.steps.toNat→firstDiff ((slotsG (keepP sp) (frees b) n).map (two x y)) = firstDiff ((slotsG (fun _ _=>true) (frees b) n).map (two x y)):=by
    intro n
    induction n with
    | zero=>intro _; rfl
    | succ n ih=>
     intro hn
     have ih:=ih (by omega)
     rw [slotsG_succ,slotsG_succ,List.map_append,List.map_append,firstDiff_append,firstDiff_append,ih]
     have hlvl:firstDiff ((((frees b).filter (keepP sp n)).map (Prod.mk n)).map (two x y)) = firstDiff ((((frees b).filter (fun _=>true)).map (Prod.mk n)).map (two x y)):=by
      rw [List.map_map,List.map_map,firstDiff_filter _ (keepP sp n),firstDiff_filter _ (fun _=>true)]
      ·intro p _ hk; cases hk
      ·intro p hp hk
       have hpf:0≤p.fst∧p.fst < sp.fields.length:=h.layOk.fst p hp
       obtain ⟨st,r,f,g1,g2,g3,g4,g5⟩:=hx.get (s:=n) (by omega) (k:=p.fst.toNat) (by omega)
       obtain ⟨st',r',f',g1',g2',g3',g4',g5'⟩:=hy.get (s:=n) (by omega) (k:=p.fst.toNat) (by omega)
       rw [g3] at g3'; cases g3'
       have hfv:f.var = false:=by
        simp only [keepP,g3,Option.any_some,Bool.or_eq_false_iff] at hk
        exact hk.2
       obtain ⟨st0,q1,q2⟩:=g5 hfv
       obtain ⟨st0',q1',q2'⟩:=g5' hfv
       have:=heq p hp
       unfold hasB at this
       simp only [relAt_eq q1 q2,relAt_eq q1' q2'] at this
       show hasB x (n,p) = hasB y (n,p)
       unfold hasB
       simp only [relAt_eq g1 g2,relAt_eq g1' g2']
       exact this
     rw [hlvl]
   exact key _ (Nat.le_refl _)
  ·rw [firstDiff_prefix (hp1.map (two x y)) hD,firstDiff_prefix (hp2.map (two x y)) hD]
 ·have e':¬ x.loop.toNat = y.loop.toNat:=by omega
  rw [if_neg e,if_neg e']
  by_cases hlt:x.loop < y.loop
  ·rw [if_pos hlt,if_pos (show x.loop.toNat < y.loop.toNat by omega)]; rfl
  ·rw [if_neg hlt,if_neg (show ¬ x.loop.toNat < y.loop.toNat by omega)]; rfl
end Go.AL
namespace Go.AL
open Go
variable {P:Program}
structure Ent where
 f:FuncId
 a:List AV
 r:AV
def Ent.Ok (P:Program) (e:Ent):Prop:=callable P e.f = true∧∀ h,ACall P e.f e.a h (.ret e.r) h
inductive OkL (P:Program):List Ent→Prop
 | nil:OkL P []
 | cons {e:Ent} {l:List Ent}:e.Ok P→OkL P l→OkL P (e :: l)
def tabE:List Ent→CallF
 | [],_,_,_=>none
 | e :: l,f,args,h=>match Nat.beq f e.f with
  | true=>match sameL args e.a with
   | true=>some (.ret e.r,h)
   | false=>tabE l f args h
  | false=>tabE l f args h
theorem tabE_ok:∀ {l:List Ent},OkL P l→CallOk P (tabE l)
 | [],_=>⟨fun f args h e h' he=>by simp [tabE] at he⟩
 | e :: l,.cons h1 h2=>⟨fun f args h e' h' he=>by
  simp only [tabE] at he
  split at he
  ·rename_i hf
   split at he
   ·rename_i hs
    injection he with he
    injection he with e1 e2
    subst e1 e2
    have:=sameL_eq _ _ hs
    have hf:=Nat.eq_of_beq_eq_true hf
    subst hf this
    exact ⟨h1.1,h1.2 _⟩
   ·exact (tabE_ok h2).sound _ _ _ _ _ he
  ·exact (tabE_ok h2).sound _ _ _ _ _ he⟩
def noD:DCallF:=fun _ _ _ _=>none
theorem noD_ok:DCallOk P noD:=⟨fun f args h m h' m' he=>by cases he⟩
def runE (P:Program) (pol:FuncId→Nat) (l:List Ent) (fn:Func) (e:Ent):Bool:=
 match snapL [] deep e.a with
 | some a=>match bodyE P noD (exec P pol (tabE l) noD 100000) fn a [] with
  | some (.ret v,h')=>match snapV h' deep v with
   | some v=>v.same e.r
   | none=>false
  | _=>false
 | none=>false
theorem Ent.ok {e:Ent} {l:List Ent} {fn:Func} (pol:FuncId→Nat) (hl:OkL P l) (hf:P.funcs[e.f]? = some fn) (hm:(P.follows .mixedOrders && callable P e.f) = true) (h:runE P pol l fn e = true):e.Ok P:=by
 simp only [Bool.and_eq_true] at hm
 refine ⟨hm.2,fun h0=>?_⟩
 unfold runE at h
 split at h
 ·rename_i a ha
  split at h
  ·rename_i v h' hb
   split at h
   ·rename_i v' hv
    have:=AV.same_eq _ _ h
    subst this
    exact ACall.pure ha (bodyE_sound noD_ok (exec_sound hm.1 (tabE_ok hl) noD_ok _) hf hb) hv
   ·cases h
  ·cases h
 ·cases h
end Go.AL
