/- Part 9 of 11 of the proof: the lemmas and contracts of TL6 .. LBridge. -/
import Derived.Test.YtbjaehfboanglaaGreatDoorCards
import Derived.Test.YtbjaehfboanglaaGreatDoorTie
import Derived.WalkKit
import Derived.ProofKit
import Derived.OpenShut
import Derived.LaidMore
import Derived.Stop.Joined
import Derived.Deep.DeepHandedRow
import Derived.Test.YtbjaehfboanglaaGreatDoorWAH
set_option linter.unusedVariables false
set_option linter.unusedSimpArgs false
namespace Go.AL
open Go Go.Proofs
set_option maxRecDepth 10000
set_option maxHeartbeats 4000000
def m10 (F:Nat):Option Bool:=some true
theorem c10w (F:Nat) (res:Bool) (hm:m10 F = some res) (h:List ABlk):ACall Tryz.prog 10 [] h (.ret (.bool res)) h:=by
 obtain rfl:=oj hm
 exact KH.c10 h
def m6 (F:Nat) (sp:Spec) (b:List Bound) (x:Model) (y_3:Model):Option Bool:=
 (m10 F).bind fun y1=>
 (m12 F sp x).bind fun y2=>
 (bif y2 then
 (m12 F sp y_3).bind fun y3=>
 some (y3)
 else
 some (false)).bind fun p4=>
 (bif (!p4) then
 some (true)
 else
 (m11 F sp x.scope b).bind fun y6=>
 bif (!y6) then
 some (true)
 else
 (m26 F sp x).bind fun y7=>
 bif (!y7) then
 some (true)
 else
 (m26 F sp y_3).bind fun y8=>
 bif (!y8) then
 some (true)
 else
 (m27 F b x).bind fun y9=>
 bif (!y9) then
 some (true)
 else
 (m27 F b y_3).bind fun y10=>
 some ((!y10))).bind fun p11=>
 bif p11 then
 some y1
 else
 (m18 F sp x.scope b x).bind fun y13=>
 (m18 F sp x.scope b y_3).bind fun y14=>
 (m29 F x.scope.atoms y_3.scope.atoms).bind fun y15=>
 (bif (!y15) then
 some (true)
 else
 some ((x.scope.steps != y_3.scope.steps))).bind fun p16=>
 bif p16 then
 (bif y1 then
 bif y13.2 then
 some ((!y14.2))
 else
 some (false)
 else
 some (false)).bind fun p18=>
 some p18
 else
 (bif y1 then
 bif y13.2 then
 bif y14.2 then
 bif ((y13.1.length:Int) == (y14.1.length:Int)) then
 (m30 F y13.1 y14.1).bind fun y20=>
 (m31 F b x y_3).bind fun y21=>
 some ((y20 == y21))
 else
 some (false)
 else
 some (false)
 else
 some (false)
 else
 some (false)).bind fun p22=>
 some p22
theorem c6 (F:Nat) (sp:Spec) (b:List Bound) (x:Model) (y_3:Model) (res:Bool) (hm:m6 F sp b x y_3 = some res) (h:List ABlk):ACall Tryz.prog 6 [sp.av,AV.vw 4 (b.map Bound.av),x.av,y_3.av] h (.ret (AV.bool res)) h:=by
 unfold m6 at hm
 refine ACall.mir 0 Tryz.func6 rfl (.cons (Spec.apart _) (.cons (.vw (ApartL.map fun _ _=>(Bound.apart _))) (.cons (Model.apart _) (.cons (Model.apart _) .nil)))) (nlst rfl) ?_ h
 show SX _ _ _ 128 _ _ _ _
 refine SX.seq (SX.rr rfl (SX.seq (SX.region ?_)))
 obtain ⟨y1,hy1,hm⟩:=bindE hm
 refine SOps.call rfl rfl rfl rfl rfl (c10w F  y1 hy1 _) rdNone (SOps.re rfl (SX.seq ?_))
 obtain ⟨y2,hy2,hm⟩:=bindE hm
 obtain ⟨p4,hj,hm⟩:=bindE hm
 refine SX.join ([(1,AV.vw 4 (b.map Bound.av)),(4,AV.ptr 0 0 0 0),(6,AV.ptr 1 0 0 0),(7,AV.ptr 2 0 0 0),(9,AV.bool y1),(10,AV.bool p4)]) ([ABlk.row 0 4 [sp.av],ABlk.row 0 4 [x.av],ABlk.row 0 4 [y_3.av]]) (SX.region ?_) ?_
 ·refine SOps.rn 2 rfl (SOps.call rfl rfl rfl rfl rfl (c12 F sp x y2 hy2 _) rdNone ?_)
  refine SOps.splitM rfl rfl rfl rdNone hj (fun hj=>?_) (fun hj=>?_)
  ·refine SOps.rn 2 rfl ?_
   obtain ⟨y3,hy3,hj⟩:=bindE hj
   refine SOps.call rfl rfl rfl rfl rfl (c12 F sp y_3 y3 hy3 _) rdNone (SOps.re rfl ?_)
   obtain rfl:=oj hj
   exact ⟨rfl,CutTo.sr rfl⟩
  ·refine SOps.re rfl ?_
   obtain rfl:=oj hj
   exact ⟨rfl,CutTo.sr rfl⟩
 refine SX.seq (SX.seq ?_)
 obtain ⟨p11,hj,hm⟩:=bindE hm
 refine SX.join ([(1,AV.vw 4 (b.map Bound.av)),(4,AV.ptr 0 0 0 0),(6,AV.ptr 1 0 0 0),(7,AV.ptr 2 0 0 0),(9,AV.bool y1),(58,AV.bool p11)]) ([ABlk.row 0 4 [sp.av],ABlk.row 0 4 [x.av],ABlk.row 0 4 [y_3.av]]) (SX.region ?_) ?_
 ·refine SOps.rn 2 rfl ?_
  refine SOps.splitM rfl rfl rfl rdNone hj (fun hj=>?_) (fun hj=>?_)
  ·refine SOps.re rfl ?_
   obtain rfl:=oj hj
   exact ⟨rfl,CutTo.sr rfl⟩
  ·refine SOps.rn 4 rfl ?_
   obtain ⟨y6,hy6,hj⟩:=bindE hj
   refine SOps.call rfl rfl rfl rfl rfl (c11 F sp x.scope b y6 hy6 _) rdNone (SOps.rn 2 rfl ?_)
   refine SOps.splitM rfl rfl rfl rdNone hj (fun hj=>?_) (fun hj=>?_)
   ·refine SOps.re rfl ?_
    obtain rfl:=oj hj
    exact ⟨rfl,CutTo.sr rfl⟩
   ·refine SOps.rn 2 rfl ?_
    obtain ⟨y7,hy7,hj⟩:=bindE hj
    refine SOps.call rfl rfl rfl rfl rfl (c26 F sp x y7 hy7 _) rdNone (SOps.rn 2 rfl ?_)
    refine SOps.splitM rfl rfl rfl rdNone hj (fun hj=>?_) (fun hj=>?_)
    ·refine SOps.re rfl ?_
     obtain rfl:=oj hj
     exact ⟨rfl,CutTo.sr rfl⟩
    ·refine SOps.rn 2 rfl ?_
     obtain ⟨y8,hy8,hj⟩:=bindE hj
     refine SOps.call rfl rfl rfl rfl rfl (c26 F sp y_3 y8 hy8 _) rdNone (SOps.rn 2 rfl ?_)
     refine SOps.splitM rfl rfl rfl rdNone hj (fun hj=>?_) (fun hj=>?_)
     ·refine SOps.re rfl ?_
      obtain rfl:=oj hj
      exact ⟨rfl,CutTo.sr rfl⟩
     ·refine SOps.rn 2 rfl ?_
      obtain ⟨y9,hy9,hj⟩:=bindE hj
      refine SOps.call rfl rfl rfl rfl rfl (c27 F b x y9 hy9 _) rdNone (SOps.rn 2 rfl ?_)
      refine SOps.splitM rfl rfl rfl rdNone hj (fun hj=>?_) (fun hj=>?_)
      ·refine SOps.re rfl ?_
       obtain rfl:=oj hj
       exact ⟨rfl,CutTo.sr rfl⟩
      ·refine SOps.rn 2 rfl ?_
       obtain ⟨y10,hy10,hj⟩:=bindE hj
       refine SOps.call rfl rfl rfl rfl rfl (c27 F b y_3 y10 hy10 _) rdNone (SOps.re rfl ?_)
       obtain rfl:=oj hj
       exact ⟨rfl,CutTo.sr rfl⟩
 refine SX.condM rfl rfl hm (fun ht hm=>?_) (fun ht hm=>?_)
 ·refine SX.seq (SX.rr rfl (SX.rt ?_))
  obtain rfl:=oj hm
  exact RetQ.mk (vs:=[AV.bool y1]) rfl (.apart .bool)
 ·refine SX.sk (SX.seq (SX.rn 5 rfl ?_))
  obtain ⟨y13,hy13,hm⟩:=bindE hm
  refine SOps.call rfl rfl rfl rfl rfl (c18 F sp x.scope b x y13 hy13 _) rdNone (SOps.re rfl (SX.seq (SX.rn 5 rfl ?_)))
  obtain ⟨y14,hy14,hm⟩:=bindE hm
  refine SOps.call rfl rfl rfl rfl rfl (c18 F sp x.scope b y_3 y14 hy14 _) rdNone (SOps.re rfl (SX.seq (SX.rn 6 rfl ?_)))
  obtain ⟨y15,hy15,hm⟩:=bindE hm
  refine SOps.call rfl rfl rfl rfl rfl (c29 F x.scope.atoms y_3.scope.atoms y15 hy15 _) rdNone (SOps.re rfl ?_)
  refine SX.seq (SX.seq ?_)
  obtain ⟨p16,hj,hm⟩:=bindE hm
  refine SX.join ([(1,AV.vw 4 (b.map Bound.av)),(6,AV.ptr 1 0 0 0),(7,AV.ptr 2 0 0 0),(9,AV.bool y1),(11,AV.vw 1 (y13.1.map AV.bool)),(12,AV.bool y13.2),(13,AV.vw 1 (y14.1.map AV.bool)),(14,AV.bool y14.2),(95,AV.bool p16)]) ([ABlk.row 0 4 [sp.av],ABlk.row 0 4 [x.av],ABlk.row 0 4 [y_3.av]]) (SX.region ?_) ?_
  ·refine SOps.rn 2 rfl ?_
   refine SOps.splitM rfl rfl rfl rdNone hj (fun hj=>?_) (fun hj=>?_)
   ·refine SOps.re rfl ?_
    obtain rfl:=oj hj
    exact ⟨rfl,CutTo.sr rfl⟩
   ·refine SOps.re rfl ?_
    obtain rfl:=oj hj
    exact ⟨rfl,CutTo.sr rfl⟩
  refine SX.condM rfl rfl hm (fun ht hm=>?_) (fun ht hm=>?_)
  ·refine SX.seq ?_
   obtain ⟨p18,hj,hm⟩:=bindE hm
   refine SX.join ([(8,AV.bool p18)]) ([ABlk.row 0 4 [sp.av],ABlk.row 0 4 [x.av],ABlk.row 0 4 [y_3.av]]) (SX.region ?_) ?_
   ·refine SOps.rn 1 rfl ?_
    refine SOps.splitM rfl rfl rfl rdNone hj (fun hj=>?_) (fun hj=>?_)
    ·refine SOps.rn 2 rfl ?_
     refine SOps.splitM rfl rfl rfl rdNone hj (fun hj=>?_) (fun hj=>?_)
     ·refine SOps.re rfl ?_
      obtain rfl:=oj hj
      exact ⟨rfl,CutTo.sr rfl⟩
     ·refine SOps.re rfl ?_
      obtain rfl:=oj hj
      exact ⟨rfl,CutTo.sr rfl⟩
    ·refine SOps.re rfl ?_
     obtain rfl:=oj hj
     exact ⟨rfl,CutTo.sr rfl⟩
   refine SX.rt ?_
   obtain rfl:=oj hm
   exact RetQ.mk (vs:=[AV.bool p18]) rfl (.apart .bool)
  ·refine SX.sk (SX.seq ?_)
   obtain ⟨p22,hj,hm⟩:=bindE hm
   refine SX.join ([(8,AV.bool p22)]) ([ABlk.row 0 4 [sp.av],ABlk.row 0 4 [x.av],ABlk.row 0 4 [y_3.av]]) (SX.draw follows_mixed rfl rdNone ?_) ?_
   ·refine PO.rn 1 rfl ?_
    refine PO.splitM rfl rfl rfl hj (fun hj=>?_) (fun hj=>?_)
    ·refine PO.rn 2 rfl ?_
     refine PO.splitM rfl rfl rfl hj (fun hj=>?_) (fun hj=>?_)
     ·refine PO.rn 2 rfl ?_
      refine PO.splitM rfl rfl rfl hj (fun hj=>?_) (fun hj=>?_)
      ·refine PO.rn 1 rfl (PO.light rfl rfl (lightV_len (f:=AV.bool) (xs:=y13.1) rfl rfl Tryz.underlying38 rfl) (PO.rn 1 rfl (PO.light rfl rfl (lightV_len (f:=AV.bool) (xs:=y14.1) rfl rfl Tryz.underlying38 rfl) (PO.rn 2 rfl ?_))))
       refine PO.splitM rfl rfl rfl hj (fun hj=>?_) (fun hj=>?_)
       ·refine PO.rn 2 rfl ?_
        obtain ⟨y20,hy20,hj⟩:=bindE hj
        refine PO.call rfl rfl rfl rfl rfl (c30 F y13.1 y14.1 y20 hy20 _) (PO.rn 3 rfl ?_)
        obtain ⟨y21,hy21,hj⟩:=bindE hj
        refine PO.call rfl rfl rfl rfl rfl (c31 F b x y_3 y21 hy21 _) (PO.re rfl ?_)
        obtain rfl:=oj hj
        exact ⟨rfl,CutTo.sr rfl⟩
       ·refine PO.re rfl ?_
        obtain rfl:=oj hj
        exact ⟨rfl,CutTo.sr rfl⟩
      ·refine PO.re rfl ?_
       obtain rfl:=oj hj
       exact ⟨rfl,CutTo.sr rfl⟩
     ·refine PO.re rfl ?_
      obtain rfl:=oj hj
      exact ⟨rfl,CutTo.sr rfl⟩
    ·refine PO.re rfl ?_
     obtain rfl:=oj hj
     exact ⟨rfl,CutTo.sr rfl⟩
   refine SX.rt ?_
   obtain rfl:=oj hm
   exact RetQ.mk (vs:=[AV.bool p22]) rfl (.apart .bool)
end Go.AL
namespace Go.AL
open Go
set_option maxRecDepth 4000
theorem e6 (sp:Spec) (hs:SpSm sp) (b:List Bound) (hb:BdSm b) (x y:Model) (hx:MoSm x) (hy:MoSm y):Ev (fun r=>r = true) (fun F=>m6 F sp b x y):=by
 unfold m6 m10
 refine Ev.bind (P:=fun r=>r = true) (Ev.pure rfl) (fun y1 hy1=>?_)
 subst hy1
 refine Ev.bind (e12 sp hs x hx) (fun y2 _=>Ev.bind (P:=TT) (Ev.ite (fun _=>Ev.bind (e12 sp hs y hy) (fun _ _=>Ev.pure trivial)) (fun _=>Ev.pure trivial)) (fun p4 _=>?_))
 refine Ev.bind (P:=fun p=>p = false→FitsOk sp x.scope b∧ModelOk sp x∧ModelOk sp y∧ContB b x∧ContB b y) ?_ (fun p hp=>?_)
 ·refine Ev.ite (fun _=>Ev.pure (fun h=>by cases h)) (fun _=>Ev.bind (e11 sp hs x.scope hx.atoms b hb) (fun y6 hy6=>Ev.ite (fun _=>Ev.pure (fun h=>by cases h)) (fun h6=>?_)))
  have hf:=hy6 (bnot_t h6)
  refine Ev.bind (e26 sp hs hf.spok x hx) (fun y7 hy7=>Ev.ite (fun _=>Ev.pure (fun h=>by cases h)) (fun h7=>?_))
  refine Ev.bind (e26 sp hs hf.spok y hy) (fun y8 hy8=>Ev.ite (fun _=>Ev.pure (fun h=>by cases h)) (fun h8=>?_))
  refine Ev.bind (e27 b x hb hx) (fun y9 hy9=>Ev.ite (fun _=>Ev.pure (fun h=>by cases h)) (fun h9=>?_))
  refine Ev.bind (e27 b y hb hy) (fun y10 hy10=>Ev.pure (fun h10=>?_))
  exact ⟨hf,hy7.1 (bnot_t h7),hy8.1 (bnot_t h8),hy9.1 (bnot_t h9),hy10.1 (bnot_t h10)⟩
 refine Ev.ite (fun _=>Ev.pure rfl) (fun hpf=>?_)
 obtain ⟨hf,k1,k2,k3,k4⟩:=hp hpf
 have hst:=hf.steps
 refine Ev.bind (e18 hs hf hb x hx) (fun y13 hy13=>Ev.bind (e18 hs hf hb y hy) (fun y14 hy14=>Ev.bind (e29 x.scope.atoms y.scope.atoms hx.atoms) (fun y15 hy15=>?_)))
 have q13:=hy13.1 ⟨rfl,rfl,k1,k3⟩
 refine Ev.bind (P:=fun p=>p = false↔y.scope.steps = x.scope.steps∧y.scope.atoms = x.scope.atoms) ?_ (fun p hp=>?_)
 ·refine Ev.ite (fun h1=>Ev.pure ⟨fun h=>(by cases h),fun h=>?_⟩) (fun h1=>Ev.pure ⟨fun h2=>⟨?_,(hy15.1 (bnot_t h1)).symm⟩,fun h2=>?_⟩)
  ·rw [hy15.2 h.2.symm] at h1; cases h1
  ·have:x.scope.steps = y.scope.steps:=by simpa using h2
   exact this.symm
  ·rw [h2.1]; simp
 refine Ev.ite (fun h1=>?_) (fun h1=>?_)
 ·have:¬ EncOk sp x.scope b y:=fun h=>by
   rw [hp.2 ⟨h.1,h.2.1⟩] at h1; cases h1
  have q14:=hy14.2 this
  subst q13 q14
  exact Ev.bind (P:=fun r=>r = true) (Ev.pure rfl) (fun _ h=>Ev.pure h)
 ·obtain ⟨g1,g2⟩:=hp.1 h1
  have q14:=hy14.1 ⟨g1,g2,k2,k4⟩
  subst q13 q14
  have hlen:(encL sp b x).length = (encL sp b y).length:=by
   unfold encL
   rw [List.length_append,List.length_append,List.length_map,List.length_map,loopL_len,loopL_len,g1]
  have hsm:(encL sp b x).length≤LIM:=by
   have h4:(slotsG (keepP sp) (frees b) x.scope.steps.toNat).length≤4000:=hf.layOk.len
   unfold encL
   rw [List.length_append,List.length_map,loopL_len]
   have:selN ((x.scope.steps.toNat:Nat):Int)≤4:=by unfold selN; split <;> omega
   simp only [LIM]
   omega
  refine Ev.bind (P:=fun r=>r = true) ?_ (fun _ h=>Ev.pure h)
  refine Ev.ite (c:=((encL sp b x).length:Int) == ((encL sp b y).length:Int)) (fun _=>?_) (fun h=>?_)
  ·refine Ev.bind (e30 _ _ hlen hsm) (fun y20 hy20=>Ev.bind (e31 hf x y k1 k2 rfl g1 hx hy) (fun y21 hy21=>Ev.pure ?_))
   rw [hy20,hy21,enc_order hf x y k1 k2 rfl g1]
   simp
  ·rw [hlen] at h; simp at h
theorem l6 (sp:Spec) (hs:SpSm sp) (b:List Bound) (hb:BdSm b) (x y:Model) (hx:MoSm x) (hy:MoSm y):∃ F,m6 F sp b x y = some true:=by
 obtain ⟨r,rfl,F0,h⟩:=e6 sp hs b hb x y hx hy
 exact ⟨F0,h F0 (Nat.le_refl _)⟩
end Go.AL
namespace Go.AL
open Go Go.Proofs
set_option maxRecDepth 10000
def tysR:List TypeId:=[3,4,9,22,23,24,25,27,28,30,31,35,37,38,64,66,78,85,93,95,98,147,163,165,222]
def goodT (P:Program) (tys:List TypeId) (t:TypeId):Bool:=
 plainB P t && match P.underlying t with
 | some .bool=>true
 | some (.int _)=>true
 | some .string=>true
 | some (.slice e)=>tys.contains e
 | some (.struct fs)=>fs.toList.all (fun f=>tys.contains f.type) && P.cellsOf t == (fs.toList.map fun f=>P.cellsOf f.type).sum && (List.range fs.size).all fun j=>(fs.toList[j]?.map (·.offset)) == some ((fs.toList.take j).map fun f=>P.cellsOf f.type).sum
 | _=>false
theorem tys_good:(tysR.all fun t=>goodT Tryz.prog tysR t) = true:=by kernel_rfl
theorem good_of {t:TypeId} (h:t ∈ tysR):goodT Tryz.prog tysR t = true:=List.all_eq_true.1 tys_good t h
theorem plain_of {t:TypeId} (h:t ∈ tysR):plainB Tryz.prog t = true:=by
 have:=good_of h
 unfold goodT at this
 simp only [Bool.and_eq_true] at this
 exact this.1
theorem kids:Kids Tryz.prog (fun t=>t ∈ tysR) where
 pointer {t e} ht hu:=by have:=good_of ht; unfold goodT at this; rw [hu] at this; simp at this
 slice {t e} ht hu:=by have:=good_of ht; unfold goodT at this; rw [hu] at this; simp only [Bool.and_eq_true] at this; exact List.contains_iff_mem.1 this.2
 array {t e n} ht hu:=by have:=good_of ht; unfold goodT at this; rw [hu] at this; simp at this
 map {t k e} ht hu:=by have:=good_of ht; unfold goodT at this; rw [hu] at this; simp at this
 struct {t fs} ht hu:=by
  have:=good_of ht
  unfold goodT at this
  rw [hu] at this
  simp only [Bool.and_eq_true,beq_iff_eq] at this
  obtain ⟨_,⟨h1,h2⟩,h3⟩:=this
  refine ⟨fun f hf=>List.contains_iff_mem.1 (List.all_eq_true.1 h1 f hf),h2,fun j f hj=>?_⟩
  have hlt:j < fs.size:=by have:=(List.getElem?_eq_some_iff.1 hj).1; simpa using this
  have:=List.all_eq_true.1 h3 j (List.mem_range.2 hlt)
  rw [hj] at this
  simpa using this
theorem slice_pos {t e:TypeId} (ht:t ∈ tysR) (hu:Tryz.prog.underlying t = some (.slice e)):0 < Tryz.prog.cellsOf e:=by
 have:=plain_of ht
 unfold plainB at this
 rw [hu] at this
 simp only [Bool.and_eq_true] at this
 simpa using this.1
variable {avs:List AV}
theorem xInt (h:WT Tryz.prog 3 avs):∃ n,avs = [.int .i64 n]:=h.int_inv Tryz.underlying3
theorem xBool (h:WT Tryz.prog 4 avs):∃ b,avs = [.bool b]:=h.bool_inv Tryz.underlying4
theorem xStr (h:WT Tryz.prog 9 avs):∃ s,avs = [.str s]:=h.str_inv Tryz.underlying9
theorem wrap3 (y:AV):wrapT Tryz.prog 3 [y] = y:=wrap_one (fun fs h=>by rw [Tryz.underlying3] at h; cases h) y
theorem xInts (h:WT Tryz.prog 28 avs):∃ l,avs = [.vw 1 (ints l)]:=
 WT.list (fun n=>[.int .i64 n]) (AV.int .i64) Tryz.underlying28 (plain_of (by decide)) (by kernel_rfl) (fun x=>wrap3 _) (fun ys _ h=>xInt h) (fun ys=>by
  by_cases hy:WT Tryz.prog 3 ys
  ·obtain ⟨n,rfl⟩:=xInt hy
   left; rw [wrap3]; simp only [avszL,Nat.add_zero]
  ·exact .inr hy) h
theorem xRel (h:WT Tryz.prog 85 avs):∃ r:Rel,avs = r.cells:=by
 obtain ⟨parts,rfl,hl,hp⟩:=h.struct_inv Tryz.underlying85 (plain_of (by decide))
 match parts,hl with
 | [p0,p1],_=>
  obtain ⟨a,rfl⟩:=xInt (hp 0 _ p0 rfl rfl)
  obtain ⟨l,rfl⟩:=xInts (hp 1 _ p1 rfl rfl)
  exact ⟨⟨a,l⟩,rfl⟩
theorem xRels (h:WT Tryz.prog 78 avs):∃ l:List Rel,avs = [rels l]:=
 WT.list Rel.cells Rel.av Tryz.underlying78 (plain_of (by decide)) (by kernel_rfl) (fun x=>wrap_struct Tryz.underlying85 _) (fun ys _ h=>xRel h) (hav_struct Tryz.underlying85) h
theorem wrap78 (y:AV):wrapT Tryz.prog 78 [y] = y:=wrap_one (fun fs h=>by rw [Tryz.underlying78] at h; cases h) y
theorem xStates (h:WT Tryz.prog 35 avs):∃ l:List (List Rel),avs = [.vw 1 (l.map rels)]:=
 WT.list (fun l=>[rels l]) rels Tryz.underlying35 (plain_of (by decide)) (by kernel_rfl) (fun x=>wrap78 _) (fun ys _ h=>xRels h) (fun ys=>by
  by_cases hy:WT Tryz.prog 78 ys
  ·obtain ⟨n,rfl⟩:=xRels hy
   left; rw [wrap78]; simp only [avszL,Nat.add_zero]
  ·exact .inr hy) h
theorem xScope (h:WT Tryz.prog 30 avs):∃ s:Scope,avs = s.cells:=by
 obtain ⟨parts,rfl,hl,hp⟩:=h.struct_inv Tryz.underlying30 (plain_of (by decide))
 match parts,hl with
 | [p0,p1],_=>
  obtain ⟨a,rfl⟩:=xInts (hp 0 _ p0 rfl rfl)
  obtain ⟨l,rfl⟩:=xInt (hp 1 _ p1 rfl rfl)
  exact ⟨⟨a,l⟩,rfl⟩
theorem xModel (h:WT Tryz.prog 37 avs):∃ m:Model,.agg avs = m.av:=by
 obtain ⟨parts,rfl,hl,hp⟩:=h.struct_inv Tryz.underlying37 (plain_of (by decide))
 match parts,hl with
 | [p0,p1,p2],_=>
  obtain ⟨s,rfl⟩:=xScope (hp 0 _ p0 rfl rfl)
  obtain ⟨l,rfl⟩:=xStates (hp 1 _ p1 rfl rfl)
  obtain ⟨n,rfl⟩:=xInt (hp 2 _ p2 rfl rfl)
  exact ⟨⟨s,l,n⟩,rfl⟩
def Bound.cells (b:Bound):List AV:=b.lower.cells ++ b.upper.cells
theorem xBound (h:WT Tryz.prog 98 avs):∃ b:Bound,avs = b.cells:=by
 obtain ⟨parts,rfl,hl,hp⟩:=h.struct_inv Tryz.underlying98 (plain_of (by decide))
 match parts,hl with
 | [p0,p1],_=>
  obtain ⟨a,rfl⟩:=xRel (hp 0 _ p0 rfl rfl)
  obtain ⟨l,rfl⟩:=xRel (hp 1 _ p1 rfl rfl)
  exact ⟨⟨a,l⟩,rfl⟩
theorem xBounds (h:WT Tryz.prog 31 avs):∃ l:List Bound,avs = [.vw 4 (l.map Bound.av)]:=
 WT.list Bound.cells Bound.av Tryz.underlying31 (plain_of (by decide)) (by kernel_rfl) (fun x=>by rw [wrap_struct Tryz.underlying98]; rfl) (fun ys _ h=>xBound h) (hav_struct Tryz.underlying98) h
def Sort'.cells (s:Sort'):List AV:=[.str s.name,.bool s.ordered]
theorem xSort (h:WT Tryz.prog 93 avs):∃ s:Sort',avs = s.cells:=by
 obtain ⟨parts,rfl,hl,hp⟩:=h.struct_inv Tryz.underlying93 (plain_of (by decide))
 match parts,hl with
 | [p0,p1],_=>
  obtain ⟨a,rfl⟩:=xStr (hp 0 _ p0 rfl rfl)
  obtain ⟨l,rfl⟩:=xBool (hp 1 _ p1 rfl rfl)
  exact ⟨⟨a,l⟩,rfl⟩
theorem xSorts (h:WT Tryz.prog 22 avs):∃ l:List Sort',avs = [.vw 2 (l.map Sort'.av)]:=
 WT.list Sort'.cells Sort'.av Tryz.underlying22 (plain_of (by decide)) (by kernel_rfl) (fun x=>by rw [wrap_struct Tryz.underlying93]; rfl) (fun ys _ h=>xSort h) (hav_struct Tryz.underlying93) h
def Field.cells (f:Field):List AV:=[.str f.name,.vw 1 (ints f.sorts),.bool f.var]
theorem xField (h:WT Tryz.prog 95 avs):∃ s:Field,avs = s.cells:=by
 obtain ⟨parts,rfl,hl,hp⟩:=h.struct_inv Tryz.underlying95 (plain_of (by decide))
 match parts,hl with
 | [p0,p1,p2],_=>
  obtain ⟨a,rfl⟩:=xStr (hp 0 _ p0 rfl rfl)
  obtain ⟨l,rfl⟩:=xInts (hp 1 _ p1 rfl rfl)
  obtain ⟨b,rfl⟩:=xBool (hp 2 _ p2 rfl rfl)
  exact ⟨⟨a,l,b⟩,rfl⟩
theorem xFields (h:WT Tryz.prog 23 avs):∃ l:List Field,avs = [.vw 3 (l.map Field.av)]:=
 WT.list Field.cells Field.av Tryz.underlying23 (plain_of (by decide)) (by kernel_rfl) (fun x=>by rw [wrap_struct Tryz.underlying95]; rfl) (fun ys _ h=>xField h) (hav_struct Tryz.underlying95) h
theorem xNode:∀ (k:Nat) (avs:List AV),avszL avs≤k→WT Tryz.prog 66 avs→∃ n:Node,avs = n.cells:=by
 intro k
 induction k with
 | zero=>
  intro avs hk h
  obtain ⟨parts,rfl,hl,hp⟩:=h.struct_inv Tryz.underlying66 (plain_of (by decide))
  match parts,hl with
  | [p0,p1,p2,p3,p4],_=>
   obtain ⟨a,rfl⟩:=xInt (hp 0 _ p0 rfl rfl)
   simp only [List.flatten_cons,List.singleton_append,avszL,avsz] at hk
   omega
 | succ k ih=>
  intro avs hk h
  obtain ⟨parts,rfl,hl,hp⟩:=h.struct_inv Tryz.underlying66 (plain_of (by decide))
  match parts,hl with
  | [p0,p1,p2,p3,p4],_=>
   obtain ⟨a,rfl⟩:=xInt (hp 0 _ p0 rfl rfl)
   obtain ⟨s,rfl⟩:=xStr (hp 1 _ p1 rfl rfl)
   obtain ⟨n,rfl⟩:=xInt (hp 2 _ p2 rfl rfl)
   obtain ⟨q,rfl⟩:=xInt (hp 4 _ p4 rfl rfl)
   have hkids:∃ l:List Node,p3 = [.vw 5 (l.map Node.av)]:=by
    refine WT.list Node.cells Node.av Tryz.underlying64 (plain_of (by decide)) (by kernel_rfl) (fun x=>by rw [wrap_struct Tryz.underlying66,Node.av_eq]) (fun ys hy h=>ih ys ?_ h) (hav_struct Tryz.underlying66) (hp 3 _ p3 rfl rfl)
    simp only [List.flatten_cons,List.singleton_append,avszL,avsz,avszL_append] at hk
    omega
   obtain ⟨l,rfl⟩:=hkids
   refine ⟨.mk a s n l q,?_⟩
   simp only [Node.cells,Node.op,Node.name,Node.n,Node.kids,Node.pos,navs_eq]
   rfl
def Param.cells (p:Param):List AV:=[.str p.name,.int .i64 p.sort]
theorem xParam (h:WT Tryz.prog 222 avs):∃ s:Param,avs = s.cells:=by
 obtain ⟨parts,rfl,hl,hp⟩:=h.struct_inv Tryz.underlying222 (plain_of (by decide))
 match parts,hl with
 | [p0,p1],_=>
  obtain ⟨a,rfl⟩:=xStr (hp 0 _ p0 rfl rfl)
  obtain ⟨l,rfl⟩:=xInt (hp 1 _ p1 rfl rfl)
  exact ⟨⟨a,l⟩,rfl⟩
theorem xParams (h:WT Tryz.prog 163 avs):∃ l:List Param,avs = [.vw 2 (l.map Param.av)]:=
 WT.list Param.cells Param.av Tryz.underlying163 (plain_of (by decide)) (by kernel_rfl) (fun x=>by rw [wrap_struct Tryz.underlying222]; rfl) (fun ys _ h=>xParam h) (hav_struct Tryz.underlying222) h
def Pred.cells (p:Pred):List AV:=[.str p.name,.vw 2 (p.params.map Param.av)] ++ p.body.cells
theorem xPred (h:WT Tryz.prog 165 avs):∃ s:Pred,avs = s.cells:=by
 obtain ⟨parts,rfl,hl,hp⟩:=h.struct_inv Tryz.underlying165 (plain_of (by decide))
 match parts,hl with
 | [p0,p1,p2],_=>
  obtain ⟨a,rfl⟩:=xStr (hp 0 _ p0 rfl rfl)
  obtain ⟨l,rfl⟩:=xParams (hp 1 _ p1 rfl rfl)
  obtain ⟨n,rfl⟩:=xNode _ _ (Nat.le_refl _) (hp 2 _ p2 rfl rfl)
  exact ⟨⟨a,l,n⟩,by simp [Pred.cells]⟩
theorem xPreds (h:WT Tryz.prog 24 avs):∃ l:List Pred,avs = [.vw 7 (l.map Pred.av)]:=
 WT.list Pred.cells Pred.av Tryz.underlying24 (plain_of (by decide)) (by kernel_rfl) (fun x=>by rw [wrap_struct Tryz.underlying165]; rfl) (fun ys _ h=>xPred h) (hav_struct Tryz.underlying165) h
def Fact.cells (f:Fact):List AV:=[.str f.name] ++ f.body.cells
theorem xFact (h:WT Tryz.prog 147 avs):∃ s:Fact,avs = s.cells:=by
 obtain ⟨parts,rfl,hl,hp⟩:=h.struct_inv Tryz.underlying147 (plain_of (by decide))
 match parts,hl with
 | [p0,p1],_=>
  obtain ⟨a,rfl⟩:=xStr (hp 0 _ p0 rfl rfl)
  obtain ⟨n,rfl⟩:=xNode _ _ (Nat.le_refl _) (hp 1 _ p1 rfl rfl)
  exact ⟨⟨a,n⟩,by simp [Fact.cells]⟩
theorem xFacts (h:WT Tryz.prog 25 avs):∃ l:List Fact,avs = [.vw 6 (l.map Fact.av)]:=
 WT.list Fact.cells Fact.av Tryz.underlying25 (plain_of (by decide)) (by kernel_rfl) (fun x=>by rw [wrap_struct Tryz.underlying147]; rfl) (fun ys _ h=>xFact h) (hav_struct Tryz.underlying147) h
theorem xSpec (h:WT Tryz.prog 27 avs):∃ s:Spec,.agg avs = s.av:=by
 obtain ⟨parts,rfl,hl,hp⟩:=h.struct_inv Tryz.underlying27 (plain_of (by decide))
 match parts,hl with
 | [p0,p1,p2,p3],_=>
  obtain ⟨a,rfl⟩:=xSorts (hp 0 _ p0 rfl rfl)
  obtain ⟨b,rfl⟩:=xFields (hp 1 _ p1 rfl rfl)
  obtain ⟨c,rfl⟩:=xPreds (hp 2 _ p2 rfl rfl)
  obtain ⟨d,rfl⟩:=xFacts (hp 3 _ p3 rfl rfl)
  exact ⟨⟨a,b,c,d⟩,rfl⟩
theorem wrap4 (y:AV):wrapT Tryz.prog 4 [y] = y:=wrap_one (fun fs h=>by rw [Tryz.underlying4] at h; cases h) y
theorem xBools (h:WT Tryz.prog 38 avs):∃ l:List Bool,avs = [.vw 1 (l.map AV.bool)]:=
 WT.list (fun n=>[AV.bool n]) AV.bool Tryz.underlying38 (plain_of (by decide)) (by kernel_rfl) (fun x=>wrap4 _) (fun ys _ h=>xBool h) (fun ys=>by
  by_cases hy:WT Tryz.prog 4 ys
  ·obtain ⟨n,rfl⟩:=xBool hy
   left; rw [wrap4]; simp only [avszL,Nat.add_zero]
  ·exact .inr hy) h
theorem SpSm.of {sp:Spec} (h:avsz sp.av≤LIM):SpSm sp:=by
 simp only [Spec.av,avsz,avszL] at h
 have s1:∀ x:Sort',1≤avsz x.av:=fun x=>by simp only [Sort'.av,avsz,avszL]; omega
 have f1:∀ x:Field,1≤avsz x.av:=fun x=>by simp only [Field.av,avsz,avszL]; omega
 have p1:∀ x:Pred,1≤avsz x.av:=fun x=>by simp only [Pred.av,avsz,List.cons_append,avszL]; omega
 have c1:∀ x:Fact,1≤avsz x.av:=fun x=>by simp only [Fact.av,avsz,List.cons_append,avszL]; omega
 have q1:∀ x:Param,1≤avsz x.av:=fun x=>by simp only [Param.av,avsz,avszL]; omega
 have a:=avsz_one_le (l:=sp.sorts) s1
 have b:=avsz_one_le (l:=sp.fields) f1
 have c:=avsz_one_le (l:=sp.preds) p1
 have d:=avsz_one_le (l:=sp.facts) c1
 refine ⟨by omega,by omega,by omega,by omega,fun x hx=>?_,fun x hx=>?_,fun x hx=>?_,fun x hx=>?_,fun x hx=>?_⟩
 ·have:=avsz_mem (f:=Sort'.av) hx
  simp only [Sort'.av,avsz,avszL] at this
  omega
 ·have:=avsz_mem (f:=Field.av) hx
  have e:=avsz_ints x.sorts
  simp only [Field.av,avsz,avszL] at this
  omega
 ·have:=avsz_mem (f:=Pred.av) hx
  have e:=avsz_one_le (l:=x.params) q1
  simp only [Pred.av,avsz,List.cons_append,List.nil_append,avszL] at this
  omega
 ·have:=avsz_mem (f:=Pred.av) hx
  have e:=nsz_le x.body
  have e2:=x.body.cells_sz
  simp only [Pred.av,avsz,List.cons_append,List.nil_append,avszL] at this
  omega
 ·have:=avsz_mem (f:=Fact.av) hx
  have e:=nsz_le x.body
  have e2:=x.body.cells_sz
  simp only [Fact.av,avsz,List.cons_append,List.nil_append,avszL] at this
  omega
theorem BdSm.of {b:List Bound} (h:avszL (b.map Bound.av)≤LIM):BdSm b:=by
 have b1:∀ x:Bound,1≤avsz x.av:=fun x=>by simp only [Bound.av,avsz,avszL]; omega
 have a:=avsz_one_le (l:=b) b1
 refine ⟨by omega,fun x hx=>?_⟩
 have:=avsz_mem (f:=Bound.av) hx
 have e:=avsz_ints x.lower.tuples
 have e2:=avsz_ints x.upper.tuples
 simp only [Bound.av,avsz,avszL] at this
 constructor <;> omega
theorem MoSm.of {m:Model} (h:avsz m.av≤LIM):MoSm m:=by
 simp only [Model.av,avsz,avszL] at h
 have r1:∀ l:List Rel,1≤avsz (Go.AL.rels l):=fun x=>by simp only [Go.AL.rels,avsz]; omega
 have a:=avsz_one_le (l:=m.states) r1
 have b:=avsz_ints m.scope.atoms
 have key:∀ s ∈ m.states,avszL (s.map Rel.av)≤LIM:=fun s hs=>by
  have:=avsz_mem (f:=Go.AL.rels) hs
  simp only [Go.AL.rels,avsz] at this
  omega
 refine ⟨by omega,fun s hs=>?_,fun s hs r hr=>?_,by omega⟩
 ·have:=key s hs
  have c:=avsz_one_le (l:=s) (f:=Rel.av) (fun r=>by have:=r.avsz_le; omega)
  omega
 ·have:=key s hs
  have c:=avsz_mem (f:=Rel.av) hr
  have d:=r.avsz_le
  omega
end Go.AL
namespace Go.AL
open Go Go.Proofs Go.Proofs.YtbjaehfboanglaaGreatDoor Go.ChangeShapes Go.WideShapes Go.ChangeAt Go.RowKit
set_option maxRecDepth 10000
theorem bulk_all {H:Type}:∀ l:List (DataW H),Rows.uptoBulkAll l = (l.map Rows.uptoBulk).sum
 | []=>by simp [Rows.uptoBulkAll]
 | d :: l=>by simp only [Rows.uptoBulkAll,List.map_cons,List.sum_cons,bulk_all l]
def bkR (H:Type):Bk H where
 B:=Rows.uptoBulk
 one d:=by
  cases d with
  | lit l=>cases l <;> simp [Rows.uptoBulk]
  | nil=>simp [Rows.uptoBulk]
  | ptr d=>simp [Rows.uptoBulk]
  | slice elems spare=>simp [Rows.uptoBulk]
  | agg parts=>simp [Rows.uptoBulk]
  | iface t d=>simp [Rows.uptoBulk]
  | map entries=>simp [Rows.uptoBulk]
  | held h=>simp [Rows.uptoBulk]
 str bs:=by simp [Rows.uptoBulk]
 sl es sp:=by simp only [Rows.uptoBulk,bulk_all]; omega
 agg ps:=by simp only [Rows.uptoBulk,bulk_all]; omega
section
variable {H:Type} {enc:TypeId×Value→H} {P:Program} {W W':World} {base:Nat} {t:TypeId} {v:Value}
theorem arg_struct {fs:Array _root_.Go.Field} {avs:List AV} {C:Ctx} (hu:P.underlying t = some (.struct fs)) (hval:Value.okWide P W .any base t v) (hr:VRL C avs v.cells.toList):VR C (.agg avs) v:=by
 unfold Value.okWide at hval
 rw [hu] at hval
 obtain ⟨cs,rfl,_⟩:=hval
 simp only [VR]
 exact ⟨cs,rfl,hr⟩
theorem arg_slice {e:TypeId} {x:AV} {C:Ctx} (hu:P.underlying t = some (.slice e)) (hval:Value.okWide P W .any base t v) (hr:VRL C [x] v.cells.toList):VR C x v:=by
 have hc:v.cells = #[v]:=by
  cases v with
  | agg cs=>exfalso; simp [Value.okWide,Cell.okWide,Cell.ok,hu] at hval
  | _=>rfl
 rw [hc] at hr
 simp only [VRL] at hr
 obtain ⟨y,ys,h1,h2,h3⟩:=hr
 simp only [List.cons.injEq] at h1
 rw [h1.1]; exact h2
structure Old (W W':World):Prop where
 same:∀ b,b < W.heap.size→W'.heap[b]? = W.heap[b]?
 os:W'.os = W.os
 output:W'.output = W.output
theorem Old.of {C':Ctx} (h:Ext (C0 W) C'):Old W C'.w where
 same b hb:=h.same b hb (fun ⟨b,l,hb,_⟩=>by cases hb)
 os:=h.os
 output:=h.output
theorem Old.at (h:Old W W') {p:MemPlace} (hp:p.block < W.heap.size):W.sameAt W' p:=by
 cases p with
 | cell b off=>
  have:W'.heap[b]? = W.heap[b]?:=h.same b hp
  simp only [World.sameAt,World.cell?,this]
 | map b=>exact h.same b hp
theorem Old.kept (h:Old W W') (may:MemPlace→Prop):W.keptBut W' may:=by
 refine ⟨h.os,h.output,fun i hi=>?_⟩
 rw [h.same i hi]
 split
 ·rename_i c t fr c' t' fr' h1 h2
  rw [h1] at h2
  cases h2
  exact ⟨rfl,rfl,rfl,fun _ _=>rfl⟩
 ·rename_i es clock es' clock' h1 h2
  rw [h1] at h2
  cases h2
  exact .inr ⟨rfl,rfl⟩
 ·rfl
end
theorem stay {H:Type} {enc:TypeId×Value→H} {W W':World} (ho:Old W W') {t:TypeId} (ht:t ∈ tysR) {v:Value} {d:DataW H} {p:List MemPlace} (h:DataW.Trod enc Tryz.prog W 0 (fun _=>true) true t v d p) :
  DataW.Trod enc Tryz.prog W' 0 (fun b=>decide (b < W.heap.size)) true t v d p:=by
 obtain ⟨n,hn⟩:=h
 have hlt:=DataW.trod_lt n t _ _ hn
 exact ⟨n,DataW.trod_stays kids slice_pos (fun h=>by cases h) ht hn (fun p hp=>ho.at (hlt p hp)) (fun p hp=>decide_eq_true (hlt p hp))⟩
theorem open_struct {H:Type} {enc:TypeId×Value→H} {W:World} {base:Nat} {t:TypeId} {fs:Array _root_.Go.Field} {v:Value} {d:DataW H} {p:List MemPlace} (hu:Tryz.prog.underlying t = some (.struct fs))
  (hval:Value.okWide Tryz.prog W .any base t v) (h:DataW.Trod enc Tryz.prog W 0 (fun _=>true) true t v d p):∃ avs,VR (C0 W) (.agg avs) v∧WT Tryz.prog t avs∧avsz (.agg avs)≤Rows.uptoBulk d:=by
 obtain ⟨n,hn⟩:=h
 obtain ⟨avs,h1,h2,h3⟩:=reads_all (bkR H) enc Tryz.prog W n t _ _ hn
 exact ⟨avs,arg_struct hu hval h1,h2,by simp only [avsz]; exact h3⟩
theorem open_sl {H:Type} {enc:TypeId×Value→H} {W:World} {base:Nat} {t e:TypeId} {v:Value} {d:DataW H} {p:List MemPlace} (hu:Tryz.prog.underlying t = some (.slice e))
  (hval:Value.okWide Tryz.prog W .any base t v) (h:DataW.Trod enc Tryz.prog W 0 (fun _=>true) true t v d p):∃ avs,(∀ x,avs = [x]→VR (C0 W) x v)∧WT Tryz.prog t avs∧avszL avs≤Rows.uptoBulk d:=by
 obtain ⟨n,hn⟩:=h
 obtain ⟨avs,h1,h2,h3⟩:=reads_all (bkR H) enc Tryz.prog W n t _ _ hn
 exact ⟨avs,fun x hx=>arg_slice hu hval (by rw [← hx]; exact h1),h2,h3⟩
theorem open_spec {H:Type} {enc:TypeId×Value→H} {W:World} {base:Nat} {v:Value} {d:DataW H} {p:List MemPlace} (hval:Value.okWide Tryz.prog W .any base 27 v) (h:DataW.Trod enc Tryz.prog W 0 (fun _=>true) true 27 v d p) (hd:Rows.uptoBulk d≤1048576) :
  ∃ sp:Spec,VR (C0 W) sp.av v∧SpSm sp:=by
 obtain ⟨avs,h1,h2,h3⟩:=open_struct Tryz.underlying27 hval h
 obtain ⟨sp,hsp⟩:=xSpec h2
 rw [hsp] at h1 h3
 exact ⟨sp,h1,.of (by simp only [LIM]; omega)⟩
theorem open_model {H:Type} {enc:TypeId×Value→H} {W:World} {base:Nat} {v:Value} {d:DataW H} {p:List MemPlace} (hval:Value.okWide Tryz.prog W .any base 37 v) (h:DataW.Trod enc Tryz.prog W 0 (fun _=>true) true 37 v d p) (hd:Rows.uptoBulk d≤1048576) :
  ∃ m:Model,VR (C0 W) m.av v∧MoSm m:=by
 obtain ⟨avs,h1,h2,h3⟩:=open_struct Tryz.underlying37 hval h
 obtain ⟨m,hm⟩:=xModel h2
 rw [hm] at h1 h3
 exact ⟨m,h1,.of (by simp only [LIM]; omega)⟩
theorem open_bounds {H:Type} {enc:TypeId×Value→H} {W:World} {base:Nat} {v:Value} {d:DataW H} {p:List MemPlace} (hval:Value.okWide Tryz.prog W .any base 31 v) (h:DataW.Trod enc Tryz.prog W 0 (fun _=>true) true 31 v d p) (hd:Rows.uptoBulk d≤1048576) :
  ∃ b:List Bound,VR (C0 W) (.vw 4 (b.map Bound.av)) v∧BdSm b:=by
 obtain ⟨avs,h1,h2,h3⟩:=open_sl Tryz.underlying31 hval h
 obtain ⟨b,rfl⟩:=xBounds h2
 refine ⟨b,h1 _ rfl,.of ?_⟩
 simp only [avszL,avsz] at h3
 simp only [LIM]
 omega
theorem own:ownKnob Tryz.prog.godebug = none:=by kernel_rfl
theorem no_goes (P:Program) (h:P.funcs.any Func.goes = false) (f:FuncId):P.goes f = false:=by
 unfold Program.goes
 rw [h,Bool.and_false,Bool.or_false,Bool.eq_false_iff]
 intro hc
 obtain ⟨g,_,hg⟩:=List.any_eq_true.1 hc
 cases hf:P.funcs[g]? with
 | none=>rw [hf] at hg; cases hg
 | some fn=>
  rw [hf] at hg
  have:P.funcs.any Func.goes = true:=Array.any_eq_true'.2 ⟨fn,Array.mem_of_getElem? hf,hg⟩
  rw [h] at this; cases this
theorem funcs_go:Tryz.prog.funcs.any Func.goes = false:=by kernel_rfl
theorem row_goes (c:OpenClaim) (hs:c.start = .entering) {f:FuncId} (hf:Tryz.prog.funcNamed c.func = some f):false = c.goesBy Tryz.prog:=by
 unfold OpenClaim.goesBy Program.goesAt Program.goesFrom
 rw [hs,hf,Option.any_some,no_goes _ funcs_go]
 rfl
theorem main_is : Tryz.pinned.checked.prog.mainIs = some (true, ("953efbd8b76620dd0dcde23f62a43a7c3da684bc381965d3d554b63dcd91639c" : String).toList) := by kernel_rfl
end Go.AL
