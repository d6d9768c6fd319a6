/- WovenBlock of impl answers as WovenBlock of spec, for every writer's state, row of tokens and mark of the last block within the law's bounds; the tokens stay as they were, and what comes out is shared with nothing. -/
import Derived.Test.YtldiiicbgdfapaaPFnExactWovenBlockx25
set_option linter.unusedVariables false
set_option linter.unusedSimpArgs false
namespace Go.Proofs.Ytldiiicbgdfapaa.Pure
open Go.RowKit Go.Proofs.Ytldiiicbgdfapaa.PFnExactWovenBlock Go.Proofs.YtldiiicbgdfapaaW.PrintWords Go.Proofs.YtldiiicbgdfapaaW.PrintLast
open Go.Proofs.YtldiiicbgdfapaaW.PrintMore
theorem impl_LengthCode.mono_l:∀ k,(∀ y0 y1 y2 y3,LeO (impl_LengthCode.l0 k y0 y1 y2 y3) (impl_LengthCode.l0 (k+1) y0 y1 y2 y3))
  | 0=>fun _ _ _ _ r h=>by simp[impl_LengthCode.l0]at h
  | k+1=>by
    have ih0:=impl_LengthCode.mono_l k
    · intro y0 y1 y2 y3
      unfold impl_LengthCode.l0
      repeat' first
      | (with_reducible exact ih0 _ _ _ _)
      | (with_reducible exact LeO.refl _)
      | (with_reducible exact LeO.none _)
      | (with_reducible refine LeO.ite ?_ ?_)
      | (with_reducible refine LeO.bind ?_ (fun _=>?_))
      | exact ih0 _ _ _ _
      | exact LeO.none _
      | refine LeO.ite ?_ ?_
      | refine LeO.bind ?_ (fun _=>?_)
theorem impl_LengthCode.mono:∀ a0 k,LeO (impl_LengthCode.f k a0) (impl_LengthCode.f (k+1) a0):=by
  intro a0 k
  have ih0:=impl_LengthCode.mono_l k
  unfold impl_LengthCode.f
  repeat' first
      | (with_reducible exact ih0 _ _ _ _)
      | (with_reducible exact LeO.refl _)
      | (with_reducible exact LeO.none _)
      | (with_reducible refine LeO.ite ?_ ?_)
      | (with_reducible refine LeO.bind ?_ (fun _=>?_))
      | exact ih0 _ _ _ _
      | exact LeO.none _
      | refine LeO.ite ?_ ?_
      | refine LeO.bind ?_ (fun _=>?_)
theorem spec_l01Pow.mono_l:∀ k,(∀ y0 y1 y2,LeO (spec_l01Pow.l0 k y0 y1 y2) (spec_l01Pow.l0 (k+1) y0 y1 y2))
  | 0=>fun _ _ _ r h=>by simp[spec_l01Pow.l0]at h
  | k+1=>by
    have ih0:=spec_l01Pow.mono_l k
    · intro y0 y1 y2
      unfold spec_l01Pow.l0
      repeat' first
      | (with_reducible exact ih0 _ _ _)
      | (with_reducible exact LeO.refl _)
      | (with_reducible exact LeO.none _)
      | (with_reducible refine LeO.ite ?_ ?_)
      | (with_reducible refine LeO.bind ?_ (fun _=>?_))
      | exact ih0 _ _ _
      | exact LeO.none _
      | refine LeO.ite ?_ ?_
      | refine LeO.bind ?_ (fun _=>?_)
theorem spec_l01Pow.mono:∀ a0 k,LeO (spec_l01Pow.f k a0) (spec_l01Pow.f (k+1) a0):=by
  intro a0 k
  have ih0:=spec_l01Pow.mono_l k
  unfold spec_l01Pow.f
  repeat' first
      | (with_reducible exact ih0 _ _ _)
      | (with_reducible exact LeO.refl _)
      | (with_reducible exact LeO.none _)
      | (with_reducible refine LeO.ite ?_ ?_)
      | (with_reducible refine LeO.bind ?_ (fun _=>?_))
      | exact ih0 _ _ _
      | exact LeO.none _
      | refine LeO.ite ?_ ?_
      | refine LeO.bind ?_ (fun _=>?_)
theorem spec_l06LengthBits.mono_l:∀ k,(∀ y0 y1 y2 y3,LeO (spec_l06LengthBits.l0 k y0 y1 y2 y3) (spec_l06LengthBits.l0 (k+1) y0 y1 y2 y3))
  | 0=>fun _ _ _ _ r h=>by simp[spec_l06LengthBits.l0]at h
  | k+1=>by
    have ih0:=spec_l06LengthBits.mono_l k
    · intro y0 y1 y2 y3
      unfold spec_l06LengthBits.l0
      repeat' first
      | (with_reducible exact ih0 _ _ _ _)
      | (with_reducible exact spec_l01Pow.mono _ _)
      | (with_reducible exact LeO.refl _)
      | (with_reducible exact LeO.none _)
      | (with_reducible refine LeO.ite ?_ ?_)
      | (with_reducible refine LeO.bind ?_ (fun _=>?_))
      | exact ih0 _ _ _ _
      | exact spec_l01Pow.mono _ _
      | exact LeO.none _
      | refine LeO.ite ?_ ?_
      | refine LeO.bind ?_ (fun _=>?_)
theorem spec_l06LengthBits.mono:∀ a0 k,LeO (spec_l06LengthBits.f k a0) (spec_l06LengthBits.f (k+1) a0):=by
  intro a0 k
  have ih0:=spec_l06LengthBits.mono_l k
  unfold spec_l06LengthBits.f
  repeat' first
      | (with_reducible exact ih0 _ _ _ _)
      | (with_reducible exact spec_l01Pow.mono _ _)
      | (with_reducible exact LeO.refl _)
      | (with_reducible exact LeO.none _)
      | (with_reducible refine LeO.ite ?_ ?_)
      | (with_reducible refine LeO.bind ?_ (fun _=>?_))
      | exact ih0 _ _ _ _
      | exact spec_l01Pow.mono _ _
      | exact LeO.none _
      | refine LeO.ite ?_ ?_
      | refine LeO.bind ?_ (fun _=>?_)
theorem spec_LengthCode.mono_l:∀ k,(∀ y0 y1 y2 y3 y4,LeO (spec_LengthCode.l0 k y0 y1 y2 y3 y4) (spec_LengthCode.l0 (k+1) y0 y1 y2 y3 y4))∧(∀ y0 y1 y2 y3 y4 y5,LeO (spec_LengthCode.j1 k y0 y1 y2 y3 y4 y5) (spec_LengthCode.j1 (k+1) y0 y1 y2 y3 y4 y5))
  | 0=>⟨fun _ _ _ _ _ r h=>by simp[spec_LengthCode.l0]at h,fun _ _ _ _ _ _ r h=>by simp[spec_LengthCode.j1]at h⟩
  | k+1=>by
    obtain⟨ih0,ih1⟩:=spec_LengthCode.mono_l k
    refine⟨?_,?_⟩
    · intro y0 y1 y2 y3 y4
      unfold spec_LengthCode.l0
      repeat' first
      | (with_reducible exact ih0 _ _ _ _ _)
      | (with_reducible exact ih1 _ _ _ _ _ _)
      | (with_reducible exact spec_l06LengthBits.mono _ _)
      | (with_reducible exact LeO.refl _)
      | (with_reducible exact LeO.none _)
      | (with_reducible refine LeO.ite ?_ ?_)
      | (with_reducible refine LeO.bind ?_ (fun _=>?_))
      | exact ih0 _ _ _ _ _
      | exact ih1 _ _ _ _ _ _
      | exact spec_l06LengthBits.mono _ _
      | exact LeO.none _
      | refine LeO.ite ?_ ?_
      | refine LeO.bind ?_ (fun _=>?_)
    · intro y0 y1 y2 y3 y4 y5
      unfold spec_LengthCode.j1
      repeat' first
      | (with_reducible exact ih0 _ _ _ _ _)
      | (with_reducible exact ih1 _ _ _ _ _ _)
      | (with_reducible exact spec_l06LengthBits.mono _ _)
      | (with_reducible exact LeO.refl _)
      | (with_reducible exact LeO.none _)
      | (with_reducible refine LeO.ite ?_ ?_)
      | (with_reducible refine LeO.bind ?_ (fun _=>?_))
      | exact ih0 _ _ _ _ _
      | exact ih1 _ _ _ _ _ _
      | exact spec_l06LengthBits.mono _ _
      | exact LeO.none _
      | refine LeO.ite ?_ ?_
      | refine LeO.bind ?_ (fun _=>?_)
theorem spec_LengthCode.mono:∀ a0 k,LeO (spec_LengthCode.f k a0) (spec_LengthCode.f (k+1) a0):=by
  intro a0 k
  obtain⟨ih0,ih1⟩:=spec_LengthCode.mono_l k
  unfold spec_LengthCode.f
  repeat' first
      | (with_reducible exact ih0 _ _ _ _ _)
      | (with_reducible exact ih1 _ _ _ _ _ _)
      | (with_reducible exact spec_l06LengthBits.mono _ _)
      | (with_reducible exact LeO.refl _)
      | (with_reducible exact LeO.none _)
      | (with_reducible refine LeO.ite ?_ ?_)
      | (with_reducible refine LeO.bind ?_ (fun _=>?_))
      | exact ih0 _ _ _ _ _
      | exact ih1 _ _ _ _ _ _
      | exact spec_l06LengthBits.mono _ _
      | exact LeO.none _
      | refine LeO.ite ?_ ?_
      | refine LeO.bind ?_ (fun _=>?_)
theorem spec_l06DistBits.mono_l:∀ k,(∀ y0 y1 y2,LeO (spec_l06DistBits.l0 k y0 y1 y2) (spec_l06DistBits.l0 (k+1) y0 y1 y2))
  | 0=>fun _ _ _ r h=>by simp[spec_l06DistBits.l0]at h
  | k+1=>by
    have ih0:=spec_l06DistBits.mono_l k
    · intro y0 y1 y2
      unfold spec_l06DistBits.l0
      repeat' first
      | (with_reducible exact ih0 _ _ _)
      | (with_reducible exact spec_l01Pow.mono _ _)
      | (with_reducible exact LeO.refl _)
      | (with_reducible exact LeO.none _)
      | (with_reducible refine LeO.ite ?_ ?_)
      | (with_reducible refine LeO.bind ?_ (fun _=>?_))
      | exact ih0 _ _ _
      | exact spec_l01Pow.mono _ _
      | exact LeO.none _
      | refine LeO.ite ?_ ?_
      | refine LeO.bind ?_ (fun _=>?_)
theorem spec_l06DistBits.mono:∀ a0 k,LeO (spec_l06DistBits.f k a0) (spec_l06DistBits.f (k+1) a0):=by
  intro a0 k
  have ih0:=spec_l06DistBits.mono_l k
  unfold spec_l06DistBits.f
  repeat' first
      | (with_reducible exact ih0 _ _ _)
      | (with_reducible exact spec_l01Pow.mono _ _)
      | (with_reducible exact LeO.refl _)
      | (with_reducible exact LeO.none _)
      | (with_reducible refine LeO.ite ?_ ?_)
      | (with_reducible refine LeO.bind ?_ (fun _=>?_))
      | exact ih0 _ _ _
      | exact spec_l01Pow.mono _ _
      | exact LeO.none _
      | refine LeO.ite ?_ ?_
      | refine LeO.bind ?_ (fun _=>?_)
theorem w64 {x:Int} (h : -9223372036854775808≤x) (h':x≤9223372036854775807):wrap64 x=x:=by unfold wrap64;omega
def Srt {α:Type} (f:α→Int) (l:List α):Prop:=l.Pairwise fun a b=>f a≤f b
def Same {α:Type} (f:α→Int) (l m:List α):Prop:=∀ w:Int,l.filter (fun a=>decide (f a=w))=m.filter (fun a=>decide (f a=w))
theorem Same.refl {α:Type} (f:α→Int) (l:List α):Same f l l:=fun _=>rfl
theorem Same.symm {α:Type} {f:α→Int} {l m:List α} (h:Same f l m):Same f m l:=fun w=>(h w).symm
theorem Same.trans {α:Type} {f:α→Int} {l m n:List α} (h:Same f l m) (g:Same f m n):Same f l n:=fun w=>(h w).trans (g w)
theorem Same.app {α:Type} {f:α→Int} {l m l' m':List α} (h:Same f l m) (g:Same f l' m'):Same f (l++l') (m++m'):=fun w=>by
  rw[List.filter_append,List.filter_append,h w,g w]
theorem Same.mem {α:Type} {f:α→Int} {l m:List α} (h:Same f l m) {a:α} (ha:a∈l):a∈m:=by
  have:a∈l.filter (fun b=>decide (f b=f a)):=List.mem_filter.mpr ⟨ha,by simp⟩
  rw[h]at this
  exact(List.mem_filter.mp this).1
theorem Same.swap {α:Type} {f:α→Int} {l m:List α} (h:∀ a∈l,∀ b∈m,f a≠f b):Same f (l++m) (m++l):=by
  intro w
  rw[List.filter_append,List.filter_append]
  by_cases e:l.filter (fun a=>decide (f a=w))=[]
  · rw[e];simp
  · have e2:m.filter (fun a=>decide (f a=w))=[]:=by
      rw[List.filter_eq_nil_iff]
      intro b hb hw
      apply e
      rw[List.filter_eq_nil_iff]
      intro a ha hw2
      exact h a ha b hb (by rw[of_decide_eq_true hw,of_decide_eq_true hw2])
    rw[e2];simp
theorem Srt.uniq {α:Type} {f:α→Int} (l:List α):∀ m:List α,Srt f l→Srt f m→Same f l m→l=m:=by
  induction l with
  | nil =>
    intro m _ _ h
    cases m with
    | nil=>rfl
    | cons b m=>exact absurd (h.symm.mem (List.mem_cons_self ..)) (by simp)
  | cons a l ih =>
    intro m hl hm h
    cases m with
    | nil=>exact absurd (h.mem (List.mem_cons_self ..)) (by simp)
    | cons b m =>
      have hl':=List.pairwise_cons.mp hl
      have hm':=List.pairwise_cons.mp hm
      have h1:f b≤f a:=by
        rcases List.mem_cons.mp (h.mem (List.mem_cons_self ..))with e|e
        · rw[e];exact Int.le_refl _
        · exact hm'.1 _ e
      have h2:f a≤f b:=by
        rcases List.mem_cons.mp (h.symm.mem (List.mem_cons_self ..))with e|e
        · rw[e];exact Int.le_refl _
        · exact hl'.1 _ e
      have e:f a=f b:=by omega
      have q:=h (f a)
      rw[List.filter_cons_of_pos (by simp),List.filter_cons_of_pos (by simp[e])]at q
      injection q with q1 q2
      subst q1
      rw[ih m hl'.2 hm'.2 fun w=>by
        by_cases hw:f a=w
        · subst hw;exact q2
        · have:=h w
          rw[List.filter_cons_of_neg (by simpa using hw),List.filter_cons_of_neg (by simpa using hw)]at this
          exact this]
theorem Srt.app {α:Type} {f:α→Int} {l m:List α} (hl:Srt f l) (hm:Srt f m) (h:∀ a∈l,∀ b∈m,f a≤f b):Srt f (l++m):=List.pairwise_append.mpr ⟨hl,hm,h⟩
theorem Srt.left {α:Type} {f:α→Int} {l m:List α} (h:Srt f (l++m)):Srt f l:=(List.pairwise_append.mp h).1
theorem Srt.right {α:Type} {f:α→Int} {l m:List α} (h:Srt f (l++m)):Srt f m:=(List.pairwise_append.mp h).2.1
theorem Srt.between {α:Type} {f:α→Int} {l m:List α} (h:Srt f (l++m)):∀ a∈l,∀ b∈m,f a≤f b:=(List.pairwise_append.mp h).2.2
def ins {β:Type} (f:β→Int) (x:β):List β→List β
  | []=>[x]
  | y :: ys=>if f x≤f y then x :: y :: ys else y :: ins f x ys
def isort {β:Type} (f:β→Int):List β→List β
  | []=>[]
  | x :: xs=>ins f x (isort f xs)
theorem ins_ok {β:Type} (f:β→Int) (x:β) (ys:List β):Srt f ys→Srt f (ins f x ys)∧Same f (x :: ys) (ins f x ys):=by
  induction ys with
  | nil=>intro _;exact⟨by simp[ins,Srt],Same.refl _ _⟩
  | cons y ys ih =>
    intro h
    rw[ins]
    obtain⟨h1,h2⟩:=List.pairwise_cons.mp h
    by_cases c:f x≤f y
    · rw[if_pos c]
      refine⟨List.pairwise_cons.mpr ⟨fun b hb=>?_,h⟩,Same.refl _ _⟩
      rcases List.mem_cons.mp hb with rfl|hb
      · exact c
      · have:=h1 b hb;omega
    · rw[if_neg c]
      obtain⟨s,m⟩:=ih h2
      refine⟨List.pairwise_cons.mpr ⟨fun b hb=>?_,s⟩,?_⟩
      · rcases List.mem_cons.mp (m.symm.mem hb)with rfl|hb
        · omega
        · exact h1 b hb
      · have e1:Same f ([x]++[y]) ([y]++[x]):=Same.swap fun a ha b hb=>by
          simp only[List.mem_singleton]at ha hb;subst ha;subst hb;omega
        have:=(e1.app (Same.refl f ys)).trans ((Same.refl f [y]).app m)
        simpa using this
theorem isort_ok {β:Type} (f:β→Int) (xs:List β):Srt f (isort f xs)∧Same f xs (isort f xs):=by
  induction xs with
  | nil=>exact⟨by simp[isort,Srt],Same.refl _ _⟩
  | cons x xs ih =>
    obtain⟨s,m⟩:=ins_ok f x (isort f xs) ih.1
    exact⟨s,((Same.refl f [x]).app ih.2).trans m⟩
theorem isort_uniq {β:Type} {f:β→Int} {xs ys:List β} (h1:Srt f ys) (h2:Same f xs ys):ys=isort f xs :=
  Srt.uniq _ _ h1 (isort_ok f xs).1 (h2.symm.trans (isort_ok f xs).2)
theorem put_ok {β:Type} (f:β→Int) (xs A B:List β) (x:β) (hs:Srt f (A++B)) (hm:Same f xs (A++B)) (hA:∀ a∈A,f a≤f x) (hB:∀ b∈B,f x<f b):A++x :: B=isort f (xs++[x]):=by
  refine isort_uniq ?_ ?_
  · refine hs.left.app (List.pairwise_cons.mpr ⟨fun b hb=>Int.le_of_lt (hB b hb),hs.right⟩) fun a ha b hb=>?_
    rcases List.mem_cons.mp hb with rfl|hb
    · exact hA a ha
    · exact hs.between a ha b hb
  · have e1:Same f (B++[x]) ([x]++B):=Same.swap fun a ha b hb=>by
      simp only[List.mem_singleton]at hb;subst hb;have:=hB a ha;omega
    have:=(hm.app (Same.refl f [x])).trans (by rw[List.append_assoc];exact(Same.refl f A).app e1)
    simpa using this
theorem rd_at (xs:List Int) (i:Nat) (h:i<xs.length):rd xs i=xs[i]:=by simp[rd,List.getD,h]
def inB (m x:Int):Bool:=decide (0≤x) && decide (x≤m)
theorem drop_all (p:Int→Bool) (xs:List Int) (i:Nat) (h:i<xs.length):(xs.drop i).all p=(p xs[i] && (xs.drop (i+1)).all p):=by
  rw[List.drop_eq_getElem_cons h];rfl
theorem rd_Item (xs:List S106) (i:Nat) (h:i<xs.length):rd_T106 xs i=xs[i]:=by simp[rd_T106,List.getD,h]
def rawI (xs:List Int) (i:Nat):List S106:=match xs with
  | []=>[]
  | c :: cs=>if c=0 then rawI cs (i+1)else⟨c,[(i:Int)]⟩ :: rawI cs (i+1)
theorem l04First_l1 (x0:List Int) (out:List S106) (hx:out.length≤100000) (x4 w:Int) (s:List Int) (n:Nat):∀ k,n≤out.length→(∀ j (hj:j<out.length),n≤j→w<out[j].f0)→
    ∃ m q,m≤out.length∧k≤q∧(∀ j (hj:j<out.length),m≤j→w<out[j].f0)∧(∀ (h:0<m) (hj:m-1<out.length),out[m-1].f0≤w)∧spec_l04First.l1 (k+n+1) x0 out x4 n w s=spec_l04First.l0 q x0 (out.take m++⟨w,s⟩ :: out.drop m) (wrap64 (x4+1)):=by
  induction n with
  | zero =>
    intro k hn hgt
    refine⟨0,k,by omega,Nat.le_refl _,fun j hj _=>hgt j hj (Nat.zero_le _),fun h=>absurd h (by omega),?_⟩
    simp only[spec_l04First.l1]
    rw[if_neg (by omega)]
    simp only[Option.bind_some]
    rw[if_pos (by omega),if_pos (by omega),if_pos (by simp),if_pos (by simp),if_pos (by simp;omega)]
    simp
  | succ n ih =>
    intro k hn hgt
    rw[show k+(n+1)+1=(k+n+1)+1 from by omega]
    simp only[spec_l04First.l1]
    rw[if_pos (by omega),w64 (x:=((n+1:Nat):Int)-1) (by omega) (by omega),show((n+1:Nat):Int)-1=(n:Int)from by omega,if_pos (by omega),if_pos (by omega),rd_Item out n (by omega)]
    by_cases c:out[n].f0>w
    · rw[if_pos c]
      exact ih k (by omega) fun j hj hnj=>by
        by_cases e:j=n
        · subst e;exact c
        · exact hgt j hj (by omega)
    · rw[if_neg c]
      refine⟨n+1,k+n+1,hn,by omega,hgt,fun _ hj=>by simp only[Nat.add_sub_cancel];omega,?_⟩
      simp only[Option.bind_some]
      rw[if_pos (by omega),if_pos (by omega),if_pos (by simp;omega),if_pos (by simp;omega),if_pos (by simp;omega)]
      simp
theorem isort_len {β:Type} (f:β→Int) (xs:List β):(isort f xs).length=xs.length:=by
  have hi:∀ (x:β) (ys:List β),(ins f x ys).length=ys.length+1:=by
    intro x ys
    induction ys with
    | nil=>rfl
    | cons y ys ih=>rw[ins];split <;> simp[ih]
  induction xs with
  | nil=>rfl
  | cons x xs ih=>rw[isort,hi,ih];rfl
theorem l04First_l0 (x0:List Int) (hx0:x0.length≤1000) (d:Nat):∀ (k i:Nat) (R:List S106),i≤x0.length→x0.length-i=d→R.length≤i→d*2000+1≤k→
    spec_l04First.l0 k x0 (isort S106.f0 R) i=some (isort S106.f0 (R++rawI (x0.drop i) i)):=by
  induction d with
  | zero =>
    intro k i R hi hd hR hk
    obtain⟨k,rfl⟩:∃ m,k=m+1:=⟨k-1,by omega⟩
    simp only[spec_l04First.l0]
    rw[if_neg (by omega),List.drop_eq_nil_of_le (by omega),rawI,List.append_nil]
  | succ d ih =>
    intro k i R hi hd hR hk
    rw[Nat.succ_mul]at hk
    obtain⟨z,hz⟩:∃ z,z=d*2000:=⟨_,rfl⟩
    rw[← hz]at hk ih
    clear hz
    obtain⟨k,rfl⟩:∃ m,k=m+1:=⟨k-1,by omega⟩
    have lt:i<x0.length:=by omega
    simp only[spec_l04First.l0]
    rw[if_pos (by omega),if_pos (by omega),rd_at x0 i lt,List.drop_eq_getElem_cons lt,rawI]
    by_cases c:x0[i]=0
    · rw[if_pos c,if_pos c,w64 (by omega) (by omega)]
      have:=ih k (i+1) R (by omega) (by omega) (by omega) (by omega)
      push_cast at this
      exact this
    · rw[if_neg c,if_neg c]
      have sl:=isort_len S106.f0 R
      obtain⟨so,sm⟩:=isort_ok S106.f0 R
      generalize isort S106.f0 R=out at sl so sm
      obtain⟨kk,rfl⟩:∃ m,k=m+out.length+1:=⟨k-out.length-1,by omega⟩
      obtain⟨m,q,m1,m2,m3,m4,m5⟩:=l04First_l1 x0 out (by omega) i x0[i] [(i:Int)] out.length kk (Nat.le_refl _) (fun j hj h=>by omega)
      rw[m5,w64 (by omega) (by omega)]
      have hA:∀ a∈out.take m,a.f0≤x0[i]:=by
        intro a ha
        obtain⟨j,hj,rfl⟩:=List.getElem_of_mem ha
        rw[List.length_take]at hj
        rw[List.getElem_take]
        have h4:=m4 (by omega) (by omega)
        by_cases e:j=m-1
        · subst e;exact h4
        · have:=(List.pairwise_iff_getElem.mp so) j (m-1) (by omega) (by omega) (by omega)
          omega
      have hB:∀ b∈out.drop m,x0[i]<b.f0:=by
        intro b hb
        obtain⟨j,hj,rfl⟩:=List.getElem_of_mem hb
        rw[List.length_drop]at hj
        rw[List.getElem_drop]
        exact m3 (m+j) (by omega) (by omega)
      have e:=put_ok S106.f0 R (out.take m) (out.drop m) ⟨x0[i],[(i:Int)]⟩ (by rw[List.take_append_drop];exact so) (by rw[List.take_append_drop];exact sm) hA hB
      rw[e]
      have:=ih q (i+1) (R++[⟨x0[i],[(i:Int)]⟩]) (by omega) (by omega) (by simp;omega) (by omega)
      push_cast at this
      rw[this]
      simp
theorem spec_l04First_eq (x0:List Int) (hx0:x0.length≤1000) (k:Nat) (hk:x0.length*2000+1≤k):spec_l04First.f k x0=some (isort S106.f0 (rawI x0 0)):=by
  unfold spec_l04First.f
  have:=l04First_l0 x0 hx0 x0.length k 0 [] (by omega) (by omega) (by simp) hk
  exact this
def mrg {β:Type} (f:β→Int):List β→List β→List β
  | F,[]=>F
  | F,p :: ps=>F.takeWhile (fun a=>decide (f a≤f p))++p :: mrg f (F.dropWhile fun a=>decide (f a≤f p)) ps
theorem mrg_ok {β:Type} (f:β→Int) (P:List β):∀ F:List β,Srt f F→Srt f P→Srt f (mrg f F P)∧Same f (F++P) (mrg f F P):=by
  induction P with
  | nil=>intro F hF _;exact⟨by simpa [mrg] using hF,by simpa [mrg] using Same.refl f F⟩
  | cons p ps ih =>
    intro F hF hP
    obtain⟨hp1,hp2⟩:=List.pairwise_cons.mp hP
    have e:F.takeWhile (fun a=>decide (f a≤f p))++F.dropWhile (fun a=>decide (f a≤f p))=F:=List.takeWhile_append_dropWhile
    have h1:∀ a∈F.takeWhile (fun a=>decide (f a≤f p)),f a≤f p:=fun a ha=>of_decide_eq_true (List.all_eq_true.mp (List.all_takeWhile (p:=fun a=>decide (f a≤f p)) (l:=F)) a ha)
    have h2:∀ F:List β,Srt f F→∀ a∈F.dropWhile (fun a=>decide (f a≤f p)),f p<f a:=by
      intro F
      induction F with
      | nil=>intro _ a ha;cases ha
      | cons x F ihF =>
        intro hs a ha
        obtain⟨s1,s2⟩:=List.pairwise_cons.mp hs
        rw[List.dropWhile_cons]at ha
        by_cases c:f x≤f p
        · rw[if_pos (by simpa using c)]at ha
          exact ihF s2 a ha
        · rw[if_neg (by simpa using c)]at ha
          rcases List.mem_cons.mp ha with rfl|ha
          · omega
          · have:=s1 a ha;omega
    have h2:=h2 F hF
    rw[mrg]
    generalize F.takeWhile (fun a=>decide (f a≤f p))=F1 at e h1 ⊢
    generalize F.dropWhile (fun a=>decide (f a≤f p))=F2 at e h2 ⊢
    subst e
    obtain⟨i1,i2⟩:=ih F2 hF.right hp2
    have hm:∀ b∈mrg f F2 ps,f p≤f b:=by
      intro b hb
      rcases List.mem_append.mp (i2.symm.mem hb)with h|h
      · have:=h2 b h;omega
      · exact hp1 b h
    refine⟨hF.left.app (List.pairwise_cons.mpr ⟨hm,i1⟩) fun a ha b hb=>?_,?_⟩
    · have:=h1 a ha
      rcases List.mem_cons.mp hb with rfl|hb
      · exact this
      · have:=hm b hb;omega
    · have e1:Same f (F2++[p]) ([p]++F2):=Same.swap fun a ha b hb=>by
        simp only[List.mem_singleton]at hb;subst hb;have:=h2 a ha;omega
      have e2:=(Same.refl f F1).app (e1.app (Same.refl f ps))
      have e3:=(Same.refl f F1).app ((Same.refl f [p]).app i2)
      have:=e2.trans (by simpa using e3)
      simpa using this
def packI:List S106→List S106
  | a :: b :: r=>⟨a.f0+b.f0,a.f1++b.f1⟩ :: packI r
  | _=>[]
theorem l04Next_l1 (F L:List S106) (hF:F.length≤100000) (w:Int) (s:List Int) (i:Int) (d:Nat):∀ (k at_:Nat) (out:List S106),at_≤F.length→F.length-at_=d→out.length+d≤1000000→-1000000≤i→i≤1000000→
    ∃ q,k≤q∧spec_l04Next.l1 (k+d+1) F L out at_ i w s=spec_l04Next.l0 q F L (out++(F.drop at_).takeWhile (fun a=>decide (a.f0≤w))++[⟨w,s⟩]) ((at_+((F.drop at_).takeWhile (fun a=>decide (a.f0≤w))).length:Nat):Int) (i+2):=by
  induction d with
  | zero =>
    intro k a out ha hd ho h1 h2
    refine⟨k,Nat.le_refl _,?_⟩
    simp only[spec_l04Next.l1,Nat.add_zero]
    rw[if_neg (by omega),if_pos (by omega),w64 (by omega) (by omega),List.drop_eq_nil_of_le (by omega)]
    simp
  | succ d ih =>
    intro k a out ha hd ho h1 h2
    have lt:a<F.length:=by omega
    obtain⟨K,hK⟩:∃ K,K=k+d+1:=⟨_,rfl⟩
    rw[show k+(d+1)+1=K+1 from by omega]
    simp only[spec_l04Next.l1]
    rw[if_pos (by omega),if_pos (by omega),rd_Item F a lt,List.drop_eq_getElem_cons lt,List.takeWhile_cons]
    by_cases c:F[a].f0≤w
    · rw[if_pos c,if_pos (by omega),if_pos (by simpa using c),w64 (x:=(a:Int)+1) (by omega) (by omega)]
      obtain⟨q,q1,q2⟩:=ih k (a+1) (out++[⟨F[a].f0,F[a].f1⟩]) (by omega) (by omega) (by simp;omega) h1 h2
      refine⟨q,q1,?_⟩
      push_cast at q2
      rw[hK,q2]
      simp only[List.append_assoc,List.cons_append,List.nil_append,List.length_cons]
      congr 1
      push_cast;omega
    · rw[if_neg c,if_pos (by omega),if_neg (by simpa using c),w64 (by omega) (by omega)]
      refine⟨K,by omega,?_⟩
      simp
theorem drop_takeWhile {β:Type} (p:β→Bool) (F:List β) (a:Nat):F.drop (a+((F.drop a).takeWhile p).length)=(F.drop a).dropWhile p:=by
  rw[← List.drop_drop]
  generalize F.drop a=G
  have e:G.takeWhile p++G.dropWhile p=G:=List.takeWhile_append_dropWhile
  have:=List.drop_left (l₁:=G.takeWhile p) (l₂:=G.dropWhile p)
  rw[e]at this
  exact this
theorem l04Next_l0 (F L:List S106) (hF:F.length≤1000) (hL:L.length≤10000) (hw:∀ a∈L,0≤a.f0∧a.f0≤1000000000000∧a.f1.length≤1000000000000) (n:Nat):∀ (k i at_:Nat) (out:List S106),i≤L.length+1→(packI (L.drop i)).length=n→at_≤F.length→out.length+(F.length-at_)+n≤900000→n*2000+1≤k→
    spec_l04Next.l0 k F L out at_ i=some (out++mrg S106.f0 (F.drop at_) (packI (L.drop i))):=by
  induction n with
  | zero =>
    intro k i a out hi hn ha ho hk
    rw[Nat.zero_mul]at hk
    obtain⟨k,rfl⟩:∃ m,k=m+1:=⟨k-1,by omega⟩
    have hl:¬i+1<L.length:=by
      intro h
      rw[List.drop_eq_getElem_cons (by omega),List.drop_eq_getElem_cons (by omega),packI]at hn
      simp at hn
    simp only[spec_l04Next.l0]
    rw[w64 (by omega) (by omega),if_neg (by omega),if_pos (by omega),if_pos (by omega),List.length_eq_zero_iff.mp hn,mrg]
    simp only[Option.bind_some,Int.toNat_natCast]
    rw[if_pos (by rw[List.length_drop];omega)]
  | succ n ih =>
    intro k i a out hi hn ha ho hk
    rw[Nat.succ_mul]at hk
    obtain⟨z,hz⟩:∃ z,z=n*2000:=⟨_,rfl⟩
    rw[← hz]at hk ih
    clear hz
    have hl:i+1<L.length:=by
      by_cases h:i+1<L.length
      · exact h
      · exfalso
        by_cases h2:i<L.length
        · rw[List.drop_eq_getElem_cons h2,List.drop_eq_nil_of_le (by omega)]at hn
          simp[packI]at hn
        · rw[List.drop_eq_nil_of_le (by omega)]at hn
          simp[packI]at hn
    obtain⟨k,rfl⟩:∃ m,k=m+(F.length-a)+1+1:=⟨k-(F.length-a)-2,by omega⟩
    have e:L.drop i=L[i] :: L[i+1] :: L.drop (i+2):=by
      rw[List.drop_eq_getElem_cons (by omega),List.drop_eq_getElem_cons (by omega)]
    have w1:=hw L[i] (List.getElem_mem _)
    have w2:=hw L[i+1] (List.getElem_mem _)
    rw[e,packI]at hn ⊢
    simp only[List.length_cons]at hn
    obtain⟨K,hK⟩:∃ K,K=k+(F.length-a)+1:=⟨_,rfl⟩
    rw[← hK]
    simp only[spec_l04Next.l0]
    rw[w64 (x:=(i:Int)+1) (by omega) (by omega),if_pos (by omega),if_pos (by omega),if_pos (by omega),if_pos (by omega),rd_Item L i (by omega),show(i:Int)+1=((i+1:Nat):Int)from by push_cast;rfl,rd_Item L (i+1) hl,if_pos (by simp;omega)]
    simp only[Option.bind_some,List.nil_append]
    rw[if_pos (by omega),w64 (x:=L[i].f0+L[i+1].f0) (by omega) (by omega),hK]
    obtain⟨q,q1,q2⟩:=l04Next_l1 F L (by omega) (L[i].f0+L[i+1].f0) (L[i].f1++L[i+1].f1) i (F.length-a) k a out ha rfl (by omega) (by omega) (by omega)
    rw[q2]
    have tl:((F.drop a).takeWhile fun b=>decide (b.f0≤L[i].f0+L[i+1].f0)).length≤F.length-a:=by
      have:=(List.takeWhile_prefix (l:=F.drop a) (fun b=>decide (b.f0≤L[i].f0+L[i+1].f0))).length_le
      rw[List.length_drop]at this;exact this
    have g:=ih q (i+2) (a+((F.drop a).takeWhile fun b=>decide (b.f0≤L[i].f0+L[i+1].f0)).length) (out++((F.drop a).takeWhile fun b=>decide (b.f0≤L[i].f0+L[i+1].f0))++[⟨L[i].f0+L[i+1].f0,L[i].f1++L[i+1].f1⟩]) (by omega) (by omega) (by omega) (by simp only[List.length_append,List.length_cons,List.length_nil];omega) (by omega)
    rw[show(i:Int)+2=((i+2:Nat):Int)from by push_cast;rfl,g,mrg,drop_takeWhile]
    simp
theorem spec_l04Next_eq (F L:List S106) (hF:F.length≤1000) (hL:L.length≤10000) (hw:∀ a∈L,0≤a.f0∧a.f0≤1000000000000∧a.f1.length≤1000000000000) (hl:(packI L).length≤10000) (k:Nat) (hk:(packI L).length*2000+1≤k) :
    spec_l04Next.f k F L=some (mrg S106.f0 F (packI L)):=by
  unfold spec_l04Next.f
  have:=l04Next_l0 F L hF hL hw (packI L).length k 0 0 [] (by omega) rfl (by omega) (by simp;omega) hk
  simpa using this
def bump (l:List Int) (s:List Int):List Int:=s.foldl (fun l s=>l.set s.toNat (wrap64 (rd l s+1))) l
theorem bump_len (s:List Int):∀ l:List Int,(bump l s).length=l.length:=by
  induction s with
  | nil=>intro l;rfl
  | cons x s ih=>intro l;show(bump (l.set x.toNat (wrap64 (rd l x+1))) s).length=_;rw[ih,List.length_set]
theorem spec_Lim_l3 (x7:Int) (L:List S106) (hL:L.length≤1000000) (i:Nat) (hi:i<L.length) (hl:L[i].f1.length≤1000000000) (d:Nat):∀ (k j:Nat) (l:List Int),j≤L[i].f1.length→L[i].f1.length-j=d→(∀ s∈L[i].f1,0≤s∧s<l.length)→
    spec_LimitedLengths.l3 (k+d+1) x7 l L i j=spec_LimitedLengths.l2 k x7 (bump l (L[i].f1.drop j)) L ((i+1:Nat):Int):=by
  induction d with
  | zero =>
    intro k j l hj hd hs
    simp only[spec_LimitedLengths.l3,Nat.add_zero]
    rw[if_pos (by omega),if_pos (by omega),rd_Item L i hi,if_neg (by omega),w64 (by omega) (by omega),List.drop_eq_nil_of_le (by omega)]
    rfl
  | succ d ih =>
    intro k j l hj hd hs
    have lt:j<L[i].f1.length:=by omega
    obtain⟨K,hK⟩:∃ K,K=k+d+1:=⟨_,rfl⟩
    rw[show k+(d+1)+1=K+1 from by omega]
    simp only[spec_LimitedLengths.l3]
    obtain⟨s1,s2⟩:=hs L[i].f1[j] (List.getElem_mem lt)
    rw[if_pos (by omega),if_pos (by omega),rd_Item L i hi,if_pos (by omega),if_pos (by omega),rd_at _ j lt,if_pos s1,if_pos s2,w64 (x:=(j:Int)+1) (by omega) (by omega),hK]
    have:=ih k (j+1) (l.set L[i].f1[j].toNat (wrap64 (rd l L[i].f1[j]+1))) (by omega) (by omega) (fun s h=>by rw[List.length_set];exact hs s h)
    push_cast at this
    rw[this,List.drop_eq_getElem_cons lt]
    rfl
def bumps (l:List Int) (xs:List S106):List Int:=xs.foldl (fun l x=>bump l x.f1) l
theorem spec_Lim_l2 (n:Nat) (hn:2≤n∧n≤1000) (L:List S106) (hL:L.length≤1000000) (hE:2*n-2≤L.length) (M:Nat) (hM:M≤1000000000) (hm:∀ a∈L,a.f1.length≤M) (W:Nat) (hs:∀ a∈L,∀ s∈a.f1,0≤s∧s<(W:Int)) (d:Nat):∀ (k i:Nat) (l:List Int),i≤2*n-2→2*n-2-i=d→l.length=W→d*(M+2)+1≤k→
    spec_LimitedLengths.l2 k n l L i=some (bumps l ((L.take (2*n-2)).drop i),true):=by
  induction d with
  | zero =>
    intro k i l hi hd hl hk
    obtain⟨k,rfl⟩:∃ m,k=m+1:=⟨k-1,by omega⟩
    simp only[spec_LimitedLengths.l2]
    rw[w64 (x:=2*(n:Int)) (by omega) (by omega),w64 (by omega) (by omega),if_neg (by omega),List.drop_eq_nil_of_le (by rw[List.length_take];omega)]
    rfl
  | succ d ih =>
    intro k i l hi hd hl hk
    rw[Nat.succ_mul]at hk
    obtain⟨z,hz⟩:∃ z,z=d*(M+2):=⟨_,rfl⟩
    rw[← hz]at hk ih
    clear hz
    have lt:i<L.length:=by omega
    have hlm:=hm L[i] (List.getElem_mem lt)
    obtain⟨k,rfl⟩:∃ m,k=m+L[i].f1.length+1+1:=⟨k-L[i].f1.length-2,by omega⟩
    obtain⟨K,hK⟩:∃ K,K=k+L[i].f1.length+1:=⟨_,rfl⟩
    rw[← hK]
    simp only[spec_LimitedLengths.l2]
    rw[w64 (x:=2*(n:Int)) (by omega) (by omega),w64 (by omega) (by omega),if_pos (by omega),hK]
    have s:=spec_Lim_l3 n L hL i lt (by omega) L[i].f1.length k 0 l (by omega) (by omega) (fun q hq=>by rw[hl];exact hs _ (List.getElem_mem lt) q hq)
    rw[show((0:Nat):Int)=0 from rfl]at s
    rw[s,List.drop_zero,ih k (i+1) _ (by omega) (by omega) (by rw[bump_len];exact hl) (by omega)]
    rw[List.drop_eq_getElem_cons (i:=i) (by rw[List.length_take];omega),List.getElem_take]
    rfl
theorem impl_within_eq (a b c:Int):impl_within.f a b c=some (decide (b≤a) && decide (a≤c)):=by
  unfold impl_within.f
  by_cases h:b≤a <;> simp[h]
theorem spec_l01In_eq (a b c:Int):spec_l01In.f a b c=some (decide (b≤a) && decide (a≤c)):=by
  unfold spec_l01In.f
  by_cases h:b≤a <;> simp[h]
def p2 (n:Int):Int:=2 ^ n.toNat
theorem p2_nat (n:Nat):p2 n=((2 ^ n:Nat):Int):=by simp[p2]
theorem p2_succ (n:Int) (h:0≤n):p2 (n+1)=2*p2 n:=by
  obtain⟨m,rfl⟩:=Int.eq_ofNat_of_zero_le h
  have:((m:Int)+1)=((m+1:Nat):Int):=by omega
  rw[this,p2_nat,p2_nat,Nat.pow_succ];push_cast;omega
theorem p2_pos (n:Int):1≤p2 n:=by
  unfold p2
  have h:=Nat.one_le_two_pow (n:=n.toNat)
  exact_mod_cast h
theorem p2_le {m n:Int} (h:m≤n):p2 m≤p2 n:=by
  unfold p2
  have h:=Nat.pow_le_pow_right (n:=2) (by decide) (show m.toNat≤n.toNat by omega)
  exact_mod_cast h
theorem p2_62 {n:Int} (h:n≤62):p2 n≤4611686018427387904:=p2_le (n:=62) h
theorem p2_16 {n:Int} (h:n≤16):p2 n≤65536:=p2_le (n:=16) h
theorem spec_l01Pow_l0 (n:Int) (h62:n≤62) (d:Nat):∀ (k:Nat) (i:Int),0≤i→i≤n→n-i=d→d<k→spec_l01Pow.l0 k n (p2 i) i=some (p2 n):=by
  induction d with
  | zero =>
    intro k i h0 h1 hd hk
    obtain⟨k,rfl⟩:∃ m,k=m+1:=⟨k-1,by omega⟩
    obtain rfl:i=n:=by omega
    simp only[spec_l01Pow.l0]
    rw[if_neg (by omega)]
  | succ d ih =>
    intro k i h0 h1 hd hk
    obtain⟨k,rfl⟩:∃ m,k=m+1:=⟨k-1,by omega⟩
    have b1:=p2_pos (i+1)
    have b2:=p2_62 (n:=i+1) (by omega)
    have e:=p2_succ i h0
    simp only[spec_l01Pow.l0]
    rw[if_pos (by omega),← e,w64 (x:=p2 (i+1)) (by omega) (by omega),w64 (x:=i+1) (by omega) (by omega)]
    exact ih k (i+1) (by omega) (by omega) (by omega) (by omega)
theorem spec_l01Pow_eq (k:Nat) (n:Int) (h62:n≤62) (hk:64≤k):spec_l01Pow.f k n=some (p2 n):=by
  unfold spec_l01Pow.f
  by_cases h0:0≤n
  · exact spec_l01Pow_l0 n h62 n.toNat k 0 (by omega) h0 (by omega) (by omega)
  · obtain⟨k,rfl⟩:∃ m,k=m+1:=⟨k-1,by omega⟩
    simp only[spec_l01Pow.l0]
    rw[if_neg (by omega)]
    have:n.toNat=0:=by omega
    unfold p2;rw[this];rfl
def roomL:List Int→Int
  | []=>0
  | x :: xs=>(if x>0 then p2 (15-x)else 0)+roomL xs
theorem spec_l03Room_l0 (xs:List Int) (hx:xs.length≤1000) (d:Nat):∀ (k i:Nat) (s:Int),i≤xs.length→xs.length-i=d→0≤s→s≤32768*i→d+66≤k→
    spec_l03Room.l0 k xs s i=some (if(xs.drop i).all (inB 15)=true then(s+roomL (xs.drop i),true)else(0,false)):=by
  induction d with
  | zero =>
    intro k i s hi hd h0 h1 hk
    obtain⟨k,rfl⟩:∃ m,k=m+1:=⟨k-1,by omega⟩
    simp only[spec_l03Room.l0]
    rw[if_neg (by omega),List.drop_eq_nil_of_le (by omega)]
    simp[roomL]
  | succ d ih =>
    intro k i s hi hd h0 h1 hk
    obtain⟨k,rfl⟩:∃ m,k=m+1:=⟨k-1,by omega⟩
    have lt:i<xs.length:=by omega
    simp only[spec_l03Room.l0]
    rw[if_pos (by omega),if_pos (by omega),rd_at xs i lt,spec_l01In_eq,Option.bind_some,drop_all _ xs i lt,show(decide (0≤xs[i]) && decide (xs[i]≤15))=inB 15 xs[i]from rfl]
    cases c:inB 15 xs[i]with
    | false=>rw[if_neg (by decide),if_neg (by simp)]
    | true =>
      simp only[inB,Bool.and_eq_true,decide_eq_true_eq]at c
      rw[if_pos rfl,Bool.true_and,List.drop_eq_getElem_cons lt,roomL]
      have h2:p2 (15-xs[i])≤p2 15:=p2_le (by omega)
      have h3:p2 15=32768:=rfl
      have h4:=p2_pos (15-xs[i])
      by_cases g:xs[i]>0
      · rw[if_pos g,if_pos g,w64 (x:=15-xs[i]) (by omega) (by omega),spec_l01Pow_eq k _ (by omega) (by omega),Option.bind_some,w64 (x:=s+p2 (15-xs[i])) (by omega) (by omega),w64 (by omega) (by omega)]
        have:=ih k (i+1) (s+p2 (15-xs[i])) (by omega) (by omega) (by omega) (by push_cast;omega) (by omega)
        push_cast at this
        rw[this,Int.add_assoc]
      · rw[if_neg g,if_neg g,w64 (by omega) (by omega)]
        have:=ih k (i+1) s (by omega) (by omega) (by omega) (by push_cast;omega) (by omega)
        push_cast at this
        rw[this,Int.zero_add]
theorem spec_l03Room_eq (xs:List Int) (m:Int) (hm:m≤1000) (k:Nat) (hk:1100≤k):spec_l03Room.f k xs m=some (if(xs.length:Int)≤m∧xs.all (inB 15)=true then(roomL xs,true)else(0,false)):=by
  unfold spec_l03Room.f
  by_cases c:(xs.length:Int)≤m
  · rw[if_neg (by omega)]
    have:=spec_l03Room_l0 xs (by omega) xs.length k 0 0 (by omega) (by omega) (by omega) (by omega) (by omega)
    rw[show((0:Nat):Int)=0 from rfl]at this
    rw[this,List.drop_zero,Int.zero_add]
    by_cases g:xs.all (inB 15)=true
    · rw[if_pos g,if_pos ⟨c,g⟩]
    · rw[if_neg g,if_neg (fun h=>g h.2)]
  · rw[if_pos (by omega),if_neg (fun h=>c h.1)]
theorem impl_lengthsOk_l0 (xs:List Int) (hx:xs.length≤9223372036854775807) (m:Int) (d:Nat):∀ (k i:Nat),i≤xs.length→xs.length-i=d→d<k→impl_lengthsOk.l0 k xs m xs xs.length i=some ((xs.drop i).all (inB 15) && decide ((xs.length:Int)≤m)):=by
  induction d with
  | zero =>
    intro k i hi hd hk
    obtain⟨k,rfl⟩:∃ m,k=m+1:=⟨k-1,by omega⟩
    simp only[impl_lengthsOk.l0]
    rw[if_neg (by omega),List.drop_eq_nil_of_le (by omega)]
    simp
  | succ d ih =>
    intro k i hi hd hk
    obtain⟨k,rfl⟩:∃ m,k=m+1:=⟨k-1,by omega⟩
    have lt:i<xs.length:=by omega
    simp only[impl_lengthsOk.l0]
    rw[if_pos (by omega),if_pos (by omega),if_pos (by omega),rd_at xs i lt,impl_within_eq,Option.bind_some,drop_all _ xs i lt,show(decide (0≤xs[i]) && decide (xs[i]≤15))=inB 15 xs[i]from rfl]
    cases c:inB 15 xs[i]with
    | false=>rw[if_neg (by decide)];simp
    | true =>
      rw[if_pos rfl,w64 (by omega) (by omega),Bool.true_and]
      have:=ih k (i+1) (by omega) (by omega) (by omega)
      push_cast at this
      exact this
theorem impl_lengthsOk_eq (xs:List Int) (hx:xs.length≤9223372036854775807) (m:Int) (k:Nat) (hk:xs.length<k):impl_lengthsOk.f k xs m=some (xs.all (inB 15) && decide ((xs.length:Int)≤m)):=by
  unfold impl_lengthsOk.f
  have:=impl_lengthsOk_l0 xs hx m xs.length k 0 (by omega) (by omega) hk
  rw[show((0:Nat):Int)=0 from rfl]at this
  rw[this,List.drop_zero]
def posN (xs:List Int):Nat:=(xs.filter fun x=>decide (x>0)).length
theorem posN_cons (x:Int) (xs:List Int):posN (x :: xs)=if x>0 then posN xs+1 else posN xs:=by
  unfold posN
  by_cases g:x>0
  · rw[List.filter_cons_of_pos (by simpa using g),if_pos g];rfl
  · rw[List.filter_cons_of_neg (by simpa using g),if_neg g]
theorem posN_le (xs:List Int):posN xs≤xs.length:=List.length_filter_le _ _
def kindN (n:Nat) (s:Int):Int:=if n=0 then 1 else if s=32768 then 2 else if s>32768 then 5 else if n=1 then(if s=16384 then 3 else 4)else 4
theorem spec_CodeKind_l0 (xs:List Int) (hx:xs.length≤1000) (s:Int) (d:Nat):∀ (k i c:Nat),i≤xs.length→xs.length-i=d→c≤i→d<k→spec_CodeKind.l0 k xs s c i=some (kindN (c+posN (xs.drop i)) s):=by
  induction d with
  | zero =>
    intro k i c hi hd hc hk
    obtain⟨k,rfl⟩:∃ m,k=m+1:=⟨k-1,by omega⟩
    simp only[spec_CodeKind.l0]
    rw[if_neg (by omega),List.drop_eq_nil_of_le (by omega),show posN []=0 from rfl,Nat.add_zero]
    unfold kindN
    by_cases c0:c=0
    · rw[if_pos (by omega),if_pos c0]
    · rw[if_neg (by omega),if_neg c0]
      by_cases c1:s=32768
      · rw[if_pos c1,if_pos c1]
      · rw[if_neg c1,if_neg c1]
        by_cases c2:s>32768
        · rw[if_pos c2,if_pos c2]
        · rw[if_neg c2,if_neg c2]
          by_cases c3:c=1
          · rw[if_pos (by omega),if_pos c3]
            split <;> rfl
          · rw[if_neg (by omega),if_neg c3]
  | succ d ih =>
    intro k i c hi hd hc hk
    obtain⟨k,rfl⟩:∃ m,k=m+1:=⟨k-1,by omega⟩
    have lt:i<xs.length:=by omega
    simp only[spec_CodeKind.l0]
    rw[if_pos (by omega),if_pos (by omega),rd_at xs i lt,List.drop_eq_getElem_cons lt]
    by_cases g:xs[i]>0
    · rw[if_pos g,w64 (x:=(c:Int)+1) (by omega) (by omega),w64 (by omega) (by omega)]
      have:=ih k (i+1) (c+1) (by omega) (by omega) (by omega) (by omega)
      push_cast at this
      rw[this,posN_cons,if_pos g,show c+1+posN (xs.drop (i+1))=c+(posN (xs.drop (i+1))+1)from by omega]
    · rw[if_neg g,w64 (by omega) (by omega)]
      have:=ih k (i+1) c (by omega) (by omega) (by omega) (by omega)
      push_cast at this
      rw[this,posN_cons,if_neg g]
def kindL (xs:List Int):Int:=if(xs.length:Int)≤288∧xs.all (inB 15)=true then kindN (posN xs) (roomL xs)else 0
theorem spec_CodeKind_eq (xs:List Int) (k:Nat) (hk:1100≤k):spec_CodeKind.f k xs=some (kindL xs):=by
  unfold spec_CodeKind.f kindL
  rw[spec_l03Room_eq xs 288 (by omega) k (by omega),Option.bind_some]
  by_cases c:(xs.length:Int)≤288∧xs.all (inB 15)=true
  · rw[if_pos c,if_pos rfl,if_pos c]
    have:=spec_CodeKind_l0 xs (by omega) (roomL xs) xs.length k 0 0 (by omega) (by omega) (by omega) (by omega)
    rw[show((0:Nat):Int)=0 from rfl]at this
    rw[this,List.drop_zero,Nat.zero_add]
  · rw[if_neg c,if_neg (by decide),if_neg c]
theorem Lim_j3_no (k:Nat) (hk:1≤k) (xs:List Int) (a n:Int):spec_LimitedLengths.j3 k xs a n true=some ([],false):=by
  obtain⟨k,rfl⟩:∃ m,k=m+1:=⟨k-1,by omega⟩
  simp only[spec_LimitedLengths.j3,if_true]
theorem spec_Lim_l0 (xs:List Int) (hx:xs.length≤1000) (a:Int) (ha:a≤60) (d:Nat):∀ (k i c:Nat),i≤xs.length→xs.length-i=d→c≤i→64≤k→
    spec_LimitedLengths.l0 (k+2*d+2) xs a true c i=if(xs.drop i).all (inB 12000)=true then spec_LimitedLengths.j3 k xs a ((c+posN (xs.drop i):Nat):Int) (decide (((c+posN (xs.drop i):Nat):Int)>p2 a))else some ([],false):=by
  induction d with
  | zero =>
    intro k i c hi hd hc hk
    simp only[Nat.mul_zero,Nat.add_zero,spec_LimitedLengths.l0,spec_LimitedLengths.j2]
    rw[if_neg (by omega),if_neg (by decide),if_pos trivial,spec_l01Pow_eq k a (by omega) hk,Option.bind_some,List.drop_eq_nil_of_le (by omega)]
    rfl
  | succ d ih =>
    intro k i c hi hd hc hk
    have lt:i<xs.length:=by omega
    obtain⟨K,hK⟩:∃ K,K=k+2*d+2:=⟨_,rfl⟩
    rw[show k+2*(d+1)+2=K+1+1 from by omega]
    simp only[spec_LimitedLengths.l0,spec_LimitedLengths.j2]
    rw[if_pos (by omega),if_pos trivial,if_pos (by omega),if_pos (by omega),rd_at xs i lt,spec_l01In_eq,Option.bind_some,show(decide (0≤xs[i]) && decide (xs[i]≤12000))=inB 12000 xs[i]from rfl,drop_all _ xs i lt,List.drop_eq_getElem_cons lt,posN_cons]
    cases h:inB 12000 xs[i]with
    | false =>
      rw[Bool.false_and,if_neg (show ¬false=true by decide)]
      have stop:∀ (c2:Int) (j:Int),spec_LimitedLengths.l0 K xs a false c2 j=some ([],false):=by
        intro c2 j
        obtain⟨K2,rfl⟩:∃ m,K=m+1+1:=⟨K-2,by omega⟩
        simp only[spec_LimitedLengths.l0,spec_LimitedLengths.j2]
        have:=Lim_j3_no K2 (by omega) xs a c2
        split <;> simp[this]
      split <;> exact stop _ _
    | true =>
      rw[Bool.true_and]
      by_cases g:xs[i]>0
      · rw[if_pos g,if_pos g,w64 (x:=(c:Int)+1) (by omega) (by omega),w64 (x:=(i:Int)+1) (by omega) (by omega),hK]
        have:=ih k (i+1) (c+1) (by omega) (by omega) (by omega) hk
        push_cast at this
        rw[this,show c+(posN (xs.drop (i+1))+1)=c+1+posN (xs.drop (i+1))from by omega]
        push_cast
        rfl
      · rw[if_neg g,if_neg g,w64 (x:=(i:Int)+1) (by omega) (by omega),hK]
        have:=ih k (i+1) c (by omega) (by omega) (by omega) hk
        push_cast at this
        rw[this]
        push_cast
        rfl
theorem packI_bd (W:Int) (M:Nat) (n:Nat):∀ L:List S106,L.length≤n→(∀ a∈L,0≤a.f0∧a.f0≤W∧a.f1.length≤M)→(∀ a∈packI L,0≤a.f0∧a.f0≤2*W∧a.f1.length≤2*M)∧2*(packI L).length≤L.length:=by
  induction n using Nat.strongRecOn with
  | _ n ih =>
    intro L hn h
    match L with
    | []=>exact⟨fun a ha=>by simp[packI]at ha,by simp[packI]⟩
    | [x]=>exact⟨fun a ha=>by simp[packI]at ha,by simp[packI]⟩
    | x :: y :: r =>
      simp only[List.length_cons]at hn
      obtain⟨i1,i2⟩:=ih (n-2) (by omega) r (by omega) (fun a ha=>h a (by simp[ha]))
      have hx:=h x (by simp)
      have hy:=h y (by simp)
      rw[packI]
      refine⟨fun a ha=>?_,by simp only[List.length_cons];omega⟩
      rcases List.mem_cons.mp ha with rfl|ha
      · exact⟨by simp only;omega,by simp only;omega,by simp only[List.length_append];omega⟩
      · exact i1 a ha
theorem mrg_len {β:Type} (f:β→Int) (P:List β):∀ F:List β,(mrg f F P).length=F.length+P.length:=by
  induction P with
  | nil=>intro F;simp[mrg]
  | cons p ps ih =>
    intro F
    have e:=congrArg List.length (List.takeWhile_append_dropWhile (p:=fun a=>decide (f a≤f p)) (l:=F))
    rw[List.length_append]at e
    rw[mrg,List.length_append,List.length_cons,ih,List.length_cons]
    omega
theorem mrg_mem {β:Type} (f:β→Int) (P:List β):∀ (F:List β) (a:β),a∈mrg f F P→a∈F∨a∈P:=by
  induction P with
  | nil=>intro F a h;exact Or.inl (by simpa [mrg] using h)
  | cons p ps ih =>
    intro F a h
    rw[mrg]at h
    rcases List.mem_append.mp h with h|h
    · exact Or.inl ((List.takeWhile_prefix _).subset h)
    · rcases List.mem_cons.mp h with rfl|h
      · exact Or.inr (List.mem_cons_self ..)
      · rcases ih _ a h with h|h
        · exact Or.inl ((List.dropWhile_suffix _).subset h)
        · exact Or.inr (List.mem_cons_of_mem _ h)
def listI (F:List S106):Nat→List S106
  | 0=>F
  | m+1=>mrg S106.f0 F (packI (listI F m))
theorem listI_bd (F:List S106) (hF:∀ a∈F,0≤a.f0∧a.f0≤12000∧a.f1.length≤1) (m:Nat):(∀ a∈listI F m,0≤a.f0∧a.f0≤12000*((2 ^ m:Nat):Int)∧a.f1.length≤2 ^ m)∧(listI F m).length≤2*F.length:=by
  induction m with
  | zero=>exact⟨fun a ha=>by have:=hF a ha;simpa using this,by rw[listI];omega⟩
  | succ m ih =>
    obtain⟨i1,i2⟩:=ih
    obtain⟨p1,p2⟩:=packI_bd (12000*((2 ^ m:Nat):Int)) (2 ^ m) _ (listI F m) (Nat.le_refl _) i1
    have hp:1≤2 ^ m:=Nat.one_le_two_pow
    rw[listI]
    refine⟨fun a ha=>?_,by rw[mrg_len];omega⟩
    rw[Nat.pow_succ]
    rcases mrg_mem _ _ _ a ha with h|h
    · have:=hF a h
      push_cast
      exact ⟨this.1, by have : (1 : Int) ≤ ((2 ^ m : Nat) : Int) := by exact_mod_cast hp
                        push_cast at this;omega,by omega⟩
    · have:=p1 a h
      push_cast at this ⊢
      exact⟨this.1,by omega,by omega⟩
theorem spec_Lim_l1 (F:List S106) (hF:∀ a∈F,0≤a.f0∧a.f0≤12000∧a.f1.length≤1) (hl:F.length≤288) (n:Int) (l:List Int) (lim:Nat) (hlim:lim≤15) (d:Nat):∀ (k m:Nat),m+1+d=lim→600000≤k→
    spec_LimitedLengths.l1 (k+d+1) lim n l F (listI F m) ((m+1:Nat):Int)=spec_LimitedLengths.l2 k n l (listI F (m+d)) 0:=by
  induction d with
  | zero =>
    intro k m hm hk
    simp only[spec_LimitedLengths.l1,Nat.add_zero]
    rw[if_neg (by omega)]
  | succ d ih =>
    intro k m hm hk
    obtain⟨K,hK⟩:∃ K,K=k+d+1:=⟨_,rfl⟩
    rw[show k+(d+1)+1=K+1 from by omega]
    simp only[spec_LimitedLengths.l1]
    obtain⟨b1,b2⟩:=listI_bd F hF m
    have hp:2 ^ m≤2 ^ 15:=Nat.pow_le_pow_right (by decide) (by omega)
    have h15:(2:Nat) ^ 15=32768:=by decide
    rw[h15]at hp
    have b3:=(packI_bd (12000*((2 ^ m:Nat):Int)) (2 ^ m) _ (listI F m) (Nat.le_refl _) b1).2
    rw[if_pos (by omega),spec_l04Next_eq F (listI F m) (by omega) (by omega) (fun a ha=>by
      have:=b1 a ha
      generalize 2 ^ m=q at this hp
      omega) (by omega) K (by
      have t:(packI (listI F m)).length*2000≤576000:=Nat.mul_le_mul_right 2000 (show(packI (listI F m)).length≤288 by omega)
      have u:600000≤K:=by rw[hK];exact Nat.le_trans hk (Nat.le_trans (Nat.le_add_right k d) (Nat.le_add_right _ 1))
      exact Nat.le_trans (Nat.succ_le_succ t) (Nat.le_trans (by decide) u)),Option.bind_some,w64 (by omega) (by omega),hK]
    have:=ih k (m+1) (by omega) hk
    rw[listI]at this
    rw[show m+(d+1)=m+1+d from by omega,← this]
    push_cast
    rfl
theorem mrg_srt {β:Type} (f:β→Int) (P F:List β) (h:Srt f F) (g:Srt f P):Srt f (mrg f F P):=(mrg_ok f P F h g).1
theorem mrg_take {β:Type} (f:β→Int) (P:List β):∀ (F:List β) (p:Nat),Srt f F→Srt f P→p≤F.length+P.length→
    ∃ a q,a+q=p∧a≤F.length∧q≤P.length∧((mrg f F P).take p).Perm (F.take a++P.take q)∧∀ x∈F.drop a,∀ y∈P.take q,f y<f x:=by
  induction P with
  | nil=>intro F p hF _ hp;refine⟨p,0,rfl,by simpa using hp,Nat.le_refl _,by simp[mrg],fun x _ y hy=>by simp at hy⟩
  | cons z ps ih =>
    intro F p hF hP hp
    obtain⟨hP1,hP2⟩:=List.pairwise_cons.mp hP
    have e:F.takeWhile (fun a=>decide (f a≤f z))++F.dropWhile (fun a=>decide (f a≤f z))=F:=List.takeWhile_append_dropWhile
    rw[mrg]
    have h2:∀ F:List β,Srt f F→∀ a∈F.dropWhile (fun a=>decide (f a≤f z)),f z<f a:=by
      intro F
      induction F with
      | nil=>intro _ a ha;cases ha
      | cons x F ihF =>
        intro hs a ha
        obtain⟨s1,s2⟩:=List.pairwise_cons.mp hs
        rw[List.dropWhile_cons]at ha
        by_cases c:f x≤f z
        · rw[if_pos (by simpa using c)]at ha
          exact ihF s2 a ha
        · rw[if_neg (by simpa using c)]at ha
          rcases List.mem_cons.mp ha with rfl|ha
          · omega
          · have:=s1 a ha;omega
    have h2:=h2 F hF
    generalize F.takeWhile (fun a=>decide (f a≤f z))=F1 at e ⊢
    generalize F.dropWhile (fun a=>decide (f a≤f z))=F2 at e h2 ⊢
    subst e
    rw[List.length_append,List.length_cons]at hp
    by_cases c:p≤F1.length
    · refine⟨p,0,rfl,by rw[List.length_append];omega,Nat.zero_le _,?_,fun x _ y hy=>by simp at hy⟩
      rw[List.take_append_of_le_length c,List.take_append_of_le_length c]
      simp
    · obtain⟨m,rfl⟩:∃ m,p=F1.length+(m+1):=⟨p-F1.length-1,by omega⟩
      obtain⟨a,q,i1,i2,i3,i4,i5⟩:=ih F2 m (List.pairwise_append.mp hF).2.1 hP2 (by omega)
      refine⟨F1.length+a,q+1,by omega,by rw[List.length_append];omega,by rw[List.length_cons];omega,?_,?_⟩
      · rw[List.take_length_add_append,List.take_length_add_append,List.take_succ_cons,List.take_succ_cons,List.append_assoc]
        refine List.Perm.append_left _ ?_
        exact(List.Perm.cons z i4).trans List.perm_middle.symm
      · intro x hx y hy
        rw[List.drop_length_add_append]at hx
        rw[List.take_succ_cons]at hy
        rcases List.mem_cons.mp hy with rfl|hy
        · exact h2 x ((List.drop_sublist _ _).subset hx)
        · exact i5 x hx y hy
def occ (s:Int) (xs:List S106):Nat:=(xs.map fun x=>x.f1.count s).sum
theorem occ_app (s:Int) (xs ys:List S106):occ s (xs++ys)=occ s xs+occ s ys:=by simp[occ,List.sum_append]
theorem occ_cons (s:Int) (x:S106) (xs:List S106):occ s (x :: xs)=x.f1.count s+occ s xs:=by simp[occ]
theorem occ_perm (s:Int) {xs ys:List S106} (h:xs.Perm ys):occ s xs=occ s ys:=(h.map _).sum_nat
theorem occ_zero (s:Int) (xs:List S106) (h:∀ x∈xs,s∉x.f1):occ s xs=0:=by
  induction xs with
  | nil=>rfl
  | cons x xs ih=>rw[occ_cons,List.count_eq_zero.mpr (h x (by simp)),ih fun y hy=>h y (by simp[hy])]
theorem occ_pos (s:Int) (xs:List S106) (h:occ s xs≠0):∃ x∈xs,s∈x.f1:=by
  induction xs with
  | nil=>exact absurd rfl h
  | cons x xs ih =>
    by_cases c:s∈x.f1
    · exact⟨x,by simp,c⟩
    · rw[occ_cons,List.count_eq_zero.mpr c,Nat.zero_add]at h
      obtain⟨y,hy,hs⟩:=ih h
      exact⟨y,by simp[hy],hs⟩
theorem packI_take (s:Int) (n:Nat):∀ (L:List S106) (q:Nat),L.length≤n→q≤(packI L).length→occ s ((packI L).take q)=occ s (L.take (2*q))∧2*q≤L.length:=by
  induction n using Nat.strongRecOn with
  | _ n ih =>
    intro L q hn hq
    match L with
    | []=>simp[packI]at hq;subst hq;simp[packI,occ]
    | [x]=>simp[packI]at hq;subst hq;simp[packI,occ]
    | x :: y :: r =>
      simp only[List.length_cons]at hn
      rw[packI,List.length_cons]at hq
      cases q with
      | zero=>simp[occ]
      | succ q =>
        obtain⟨i1,i2⟩:=ih (n-2) (by omega) r q (by omega) (by omega)
        rw[packI,List.take_succ_cons,show 2*(q+1)=2*q+1+1 from by omega,List.take_succ_cons,List.take_succ_cons,occ_cons,occ_cons,occ_cons,i1]
        simp only[List.count_append,List.length_cons]
        omega
theorem packI_ge (F:List S106) (n:Nat):∀ L:List S106,L.length≤n→(∀ x∈L,0≤x.f0)→(∀ x∈L,∀ y∈F,∀ s∈y.f1,s∈x.f1→y.f0≤x.f0)→(∀ x∈packI L,0≤x.f0)∧(∀ x∈packI L,∀ y∈F,∀ s∈y.f1,s∈x.f1→y.f0≤x.f0):=by
  induction n using Nat.strongRecOn with
  | _ n ih =>
    intro L hn h0 h1
    match L with
    | []=>simp[packI]
    | [x]=>simp[packI]
    | x :: y :: r =>
      simp only[List.length_cons]at hn
      obtain⟨i1,i2⟩:=ih (n-2) (by omega) r (by omega) (fun a ha=>h0 a (by simp[ha])) (fun a ha=>h1 a (by simp[ha]))
      have hx:=h0 x (by simp)
      have hy:=h0 y (by simp)
      rw[packI]
      refine⟨fun a ha=>?_,fun a ha z hz s hs hsa=>?_⟩
      · rcases List.mem_cons.mp ha with rfl|ha
        · simp only;omega
        · exact i1 a ha
      · rcases List.mem_cons.mp ha with rfl|ha
        · simp only at hsa ⊢
          rcases List.mem_append.mp hsa with h|h
          · have:=h1 x (by simp) z hz s hs h;omega
          · have:=h1 y (by simp) z hz s hs h;omega
        · exact i2 a ha z hz s hs hsa
theorem packI_srt (n:Nat):∀ L:List S106,L.length≤n→Srt S106.f0 L→Srt S106.f0 (packI L)∧(∀ x y r,L=x :: y :: r→∀ z∈packI L,x.f0+y.f0≤z.f0):=by
  induction n using Nat.strongRecOn with
  | _ n ih =>
    intro L hn h
    match L with
    | []=>exact⟨by simp[packI,Srt],fun _ _ _ h=>by cases h⟩
    | [x]=>exact⟨by simp[packI,Srt],fun _ _ _ h=>by simp at h⟩
    | x :: y :: r =>
      simp only[List.length_cons]at hn
      obtain⟨p1,p2⟩:=List.pairwise_cons.mp h
      obtain⟨p3,p4⟩:=List.pairwise_cons.mp p2
      obtain⟨i1,i2⟩:=ih (n-2) (by omega) r (by omega) p4
      have hz:∀ z∈packI r,x.f0+y.f0≤z.f0:=by
        intro z hz
        match r,i2,p1,p3,hz with
        | [],_,_,_,hz=>simp[packI]at hz
        | [u],_,_,_,hz=>simp[packI]at hz
        | u :: v :: r,i2,p1,p3,hz =>
          have:=i2 u v r rfl z hz
          have:=p1 u (by simp)
          have:=p3 v (by simp)
          omega
      rw[packI]
      refine⟨List.pairwise_cons.mpr ⟨hz,i1⟩,fun a b c e z hz'=>?_⟩
      injection e with e1 e2
      injection e2 with e2 e3
      subst e1;subst e2
      rcases List.mem_cons.mp hz' with rfl|hz'
      · exact Int.le_refl _
      · exact hz z hz'
theorem listI_srt (F:List S106) (hs:Srt S106.f0 F) (m:Nat):Srt S106.f0 (listI F m):=by
  induction m with
  | zero=>exact hs
  | succ m ih=>exact mrg_srt _ _ _ hs (packI_srt _ _ (Nat.le_refl _) ih).1
theorem listI_ge (F:List S106) (h0:∀ x∈F,0≤x.f0) (h1:∀ x∈F,∀ y∈F,∀ s∈y.f1,s∈x.f1→x=y) (m:Nat):(∀ x∈listI F m,0≤x.f0)∧(∀ x∈listI F m,∀ y∈F,∀ s∈y.f1,s∈x.f1→y.f0≤x.f0):=by
  have hF:∀ x∈F,∀ y∈F,∀ s∈y.f1,s∈x.f1→y.f0≤x.f0:=fun x hx y hy s hs h=>by rw[h1 x hx y hy s hs h];exact Int.le_refl _
  induction m with
  | zero=>exact⟨h0,hF⟩
  | succ m ih =>
    obtain⟨p1,p2⟩:=packI_ge F _ (listI F m) (Nat.le_refl _) ih.1 ih.2
    rw[listI]
    refine⟨fun x hx=>?_,fun x hx=>?_⟩
    · rcases mrg_mem _ _ _ _ hx with h|h
      · exact h0 x h
      · exact p1 x h
    · rcases mrg_mem _ _ _ _ hx with h|h
      · exact hF x h
      · exact p2 x h
def sym (x:S106):Int:=x.f1.headD 0
theorem occ_one (F:List S106) (h1:∀ x∈F,x.f1=[sym x]) (hn:(F.map sym).Nodup) (a:Nat):(∀ x∈F.take a,occ (sym x) (F.take a)=1)∧(∀ x∈F.drop a,occ (sym x) (F.take a)=0):=by
  have key:∀ (G:List S106),(∀ x∈G,x.f1=[sym x])→(G.map sym).Nodup→∀ x∈G,occ (sym x) G=1:=by
    intro G
    induction G with
    | nil=>intro _ _ x hx;cases hx
    | cons y G ih =>
      intro g1 g2 x hx
      rw[List.map_cons]at g2
      obtain⟨n1,n2⟩:=List.nodup_cons.mp g2
      rw[occ_cons,g1 y (by simp)]
      rcases List.mem_cons.mp hx with rfl|hx
      · rw[occ_zero _ G fun z hz h=>?_]
        · simp
        · rw[g1 z (by simp[hz])]at h
          have:sym x=sym z:=by simpa using h
          exact n1 (by rw[this];exact List.mem_map_of_mem hz)
      · rw[ih (fun z hz=>g1 z (by simp[hz])) n2 x hx]
        have:sym y≠sym x:=fun e=>n1 (by rw[e];exact List.mem_map_of_mem hx)
        rw[List.count_singleton,if_neg (by simpa using this)]
  refine⟨key _ (fun x hx=>h1 x ((List.take_sublist _ _).subset hx)) (hn.sublist ((List.take_sublist _ _).map _)),fun x hx=>occ_zero _ _ fun y hy h=>?_⟩
  rw[h1 y ((List.take_sublist _ _).subset hy)]at h
  have e:sym x=sym y:=by simpa using h
  rw[← List.take_append_drop a F,List.map_append]at hn
  have:=(List.nodup_append.mp hn).2.2 (sym y) (List.mem_map_of_mem hy) (sym x) (List.mem_map_of_mem hx)
  exact this e.symm
theorem sum_app (xs ys:List S106) (g:S106→Nat):((xs++ys).map g).sum=(xs.map g).sum+(ys.map g).sum:=by simp[List.sum_append]
theorem sum_congr (xs:List S106) (g h:S106→Nat) (e:∀ x∈xs,g x=h x):(xs.map g).sum=(xs.map h).sum:=by rw[List.map_congr_left e]
theorem sum_zero (xs:List S106):(xs.map fun _=>0).sum=0:=by
  induction xs with
  | nil=>rfl
  | cons x xs ih=>rw[List.map_cons,List.sum_cons,ih]
theorem sum_const (xs:List S106) (g:S106→Nat) (c:Nat):(xs.map fun x=>c+g x).sum=xs.length*c+(xs.map g).sum:=by
  induction xs with
  | nil=>simp
  | cons x xs ih=>simp only[List.map_cons,List.sum_cons,ih,List.length_cons,Nat.succ_mul];omega
def took (m c:Nat):Nat:=2 ^ (m+1)-2 ^ (m+1-c)
theorem took_zero (m:Nat):took m 0=0:=by simp[took]
theorem took_step (m c:Nat) (h:c≤m+1):took (m+1) (c+1)=2 ^ (m+1)+took m c:=by
  unfold took
  rw[show m+1+1-(c+1)=m+1-c from by omega,Nat.pow_succ]
  have:2 ^ (m+1-c)≤2 ^ (m+1):=Nat.pow_le_pow_right (by decide) (by omega)
  omega
theorem took_all (F:List S106) (hs:Srt S106.f0 F) (h0:∀ x∈F,0≤x.f0) (h1:∀ x∈F,x.f1=[sym x]) (hn:(F.map sym).Nodup) (m:Nat):∀ p,p≤(listI F m).length→
    (∀ x∈F,occ (sym x) ((listI F m).take p)≤m+1)∧(F.map fun x=>took m (occ (sym x) ((listI F m).take p))).sum=p*2 ^ m:=by
  have hone:∀ x∈F,∀ y∈F,∀ s∈y.f1,s∈x.f1→x=y:=by
    intro x hx y hy s hs1 hs2
    rw[h1 y hy]at hs1
    rw[h1 x hx]at hs2
    have e1:s=sym y:=by simpa using hs1
    have e2:s=sym x:=by simpa using hs2
    have inj:∀ (G:List S106),(G.map sym).Nodup→∀ x∈G,∀ y∈G,sym x=sym y→x=y:=by
      intro G
      induction G with
      | nil=>intro _ x hx;cases hx
      | cons z G ih =>
        intro g x hx y hy e
        rw[List.map_cons]at g
        obtain⟨n1,n2⟩:=List.nodup_cons.mp g
        rcases List.mem_cons.mp hx with ex|gx <;> rcases List.mem_cons.mp hy with ey|gy
        · rw[ex,ey]
        · exact absurd (show sym z∈G.map sym by rw[← ex,e];exact List.mem_map_of_mem gy) n1
        · exact absurd (show sym z∈G.map sym by rw[← ey,← e];exact List.mem_map_of_mem gx) n1
        · exact ih n2 x gx y gy e
    exact inj F hn x hx y hy (e2.symm.trans e1)
  have cut:∀ (m a:Nat) (g:S106→Nat),a≤F.length→(∀ x∈F.drop a,g x=0)→(F.map g).sum=((F.take a).map g).sum:=by
    intro m a g ha hg
    conv=>lhs;rw[← List.take_append_drop a F]
    rw[sum_app,sum_congr (F.drop a) g (fun _=>0) hg,sum_zero,Nat.add_zero]
  induction m with
  | zero =>
    intro p hp
    rw[listI]at hp ⊢
    obtain⟨o1,o2⟩:=occ_one F h1 hn p
    refine⟨fun x hx=>?_,?_⟩
    · rw[← List.take_append_drop p F]at hx
      rcases List.mem_append.mp hx with h|h
      · rw[o1 x h];exact Nat.le_refl _
      · rw[o2 x h];exact Nat.zero_le _
    · rw[cut 0 p _ hp fun x hx=>by rw[o2 x hx,took_zero],sum_congr (F.take p) _ (fun _=>1+0) fun x hx=>by rw[o1 x hx];rfl,sum_const (F.take p) (fun _=>0) 1,sum_zero,List.length_take,Nat.min_eq_left hp]
      simp
  | succ m ih =>
    intro p hp
    rw[listI]at hp ⊢
    rw[mrg_len]at hp
    obtain⟨a,q,rfl,ha,hq,hperm,hlt⟩:=mrg_take S106.f0 (packI (listI F m)) F p hs (packI_srt _ _ (Nat.le_refl _) (listI_srt F hs m)).1 hp
    have hpk:=fun s=>packI_take s _ (listI F m) q (Nat.le_refl _) hq
    obtain⟨ih1,ih2⟩:=ih (2*q) (hpk 0).2
    obtain⟨o1,o2⟩:=occ_one F h1 hn a
    have hocc:∀ s,occ s ((mrg S106.f0 F (packI (listI F m))).take (a+q))=occ s (F.take a)+occ s ((listI F m).take (2*q)):=fun s=>by rw[occ_perm s hperm,occ_app,(hpk s).1]
    have hz:∀ x∈F.drop a,occ (sym x) ((listI F m).take (2*q))=0:=by
      intro x hx
      refine Decidable.byContradiction fun hne=>?_
      rw[← (hpk (sym x)).1]at hne
      obtain⟨y,hy,hsy⟩:=occ_pos _ _ hne
      have hxF:=(List.drop_sublist _ _).subset hx
      have g1:=hlt x hx y hy
      have g2:=(packI_ge F _ (listI F m) (Nat.le_refl _) (listI_ge F h0 hone m).1 (listI_ge F h0 hone m).2).2 y ((List.take_sublist _ _).subset hy) x hxF (sym x) (by rw[h1 x hxF];simp) hsy
      omega
    have hT:∀ x∈F.take a,occ (sym x) ((mrg S106.f0 F (packI (listI F m))).take (a+q))=occ (sym x) ((listI F m).take (2*q))+1:=fun x hx=>by rw[hocc,o1 x hx];omega
    have hD:∀ x∈F.drop a,occ (sym x) ((mrg S106.f0 F (packI (listI F m))).take (a+q))=0:=fun x hx=>by rw[hocc,o2 x hx,hz x hx]
    refine⟨fun x hx=>?_,?_⟩
    · have hx':=hx
      rw[← List.take_append_drop a F]at hx'
      rcases List.mem_append.mp hx' with h|h
      · rw[hT x h];have:=ih1 x hx;omega
      · rw[hD x h];exact Nat.zero_le _
    · rw[cut 0 a _ ha fun x hx=>by rw[hD x hx,took_zero]]
      rw[sum_congr (F.take a) _ (fun x=>2 ^ (m+1)+took m (occ (sym x) ((listI F m).take (2*q)))) fun x hx=>by rw[hT x hx,took_step m _ (ih1 x ((List.take_sublist _ _).subset hx))],sum_const,List.length_take]
      rw[cut 0 a _ ha fun x hx=>by rw[hz x hx,took_zero]]at ih2
      rw[ih2,Nat.min_eq_left ha,Nat.add_mul,Nat.pow_succ,Nat.mul_comm 2 q,Nat.mul_assoc q 2,Nat.mul_comm 2]
theorem kraft (F:List S106) (hs:Srt S106.f0 F) (h0:∀ x∈F,0≤x.f0) (h1:∀ x∈F,x.f1=[sym x]) (hn:(F.map sym).Nodup) (h2:2≤F.length) (m:Nat) (hp:2*F.length-2≤(listI F m).length) :
    (∀ x∈F,1≤occ (sym x) ((listI F m).take (2*F.length-2))∧occ (sym x) ((listI F m).take (2*F.length-2))≤m+1)∧(F.map fun x=>2 ^ (m+1-occ (sym x) ((listI F m).take (2*F.length-2)))).sum=2 ^ (m+1):=by
  obtain⟨t1,t2⟩:=took_all F hs h0 h1 hn m _ hp
  generalize (listI F m).take (2*F.length-2)=P at t1 t2 ⊢
  have e:(F.map fun x=>took m (occ (sym x) P)).sum+(F.map fun x=>2 ^ (m+1-occ (sym x) P)).sum=F.length*2 ^ (m+1):=by
    have:∀ G:List S106,(G.map fun x=>took m (occ (sym x) P)).sum+(G.map fun x=>2 ^ (m+1-occ (sym x) P)).sum=G.length*2 ^ (m+1):=by
      intro G
      induction G with
      | nil=>simp
      | cons x G ih =>
        simp only[List.map_cons,List.sum_cons,List.length_cons,Nat.succ_mul]
        have:2 ^ (m+1-occ (sym x) P)≤2 ^ (m+1):=Nat.pow_le_pow_right (by decide) (by omega)
        unfold took at ih ⊢
        omega
    exact this F
  have e2:(F.map fun x=>2 ^ (m+1-occ (sym x) P)).sum=2 ^ (m+1):=by
    rw[t2]at e
    obtain⟨n,hn⟩:∃ n,F.length=n+2:=⟨F.length-2,by omega⟩
    rw[hn,show 2*(n+2)-2=2*n+2 from by omega,Nat.pow_succ]at e
    rw[Nat.pow_succ]
    generalize 2 ^ m=z at e
    have f1:(2*n+2)*z=2*(n*z)+2*z:=by rw[Nat.add_mul,Nat.mul_assoc]
    have f2:(n+2)*(z*2)=2*(n*z)+4*z:=by rw[Nat.add_mul,← Nat.mul_assoc];omega
    rw[f1,f2]at e
    omega
  refine⟨fun x hx=>⟨?_,t1 x hx⟩,e2⟩
  refine Nat.pos_of_ne_zero fun hz=>?_
  obtain⟨A,B,rfl⟩:=List.append_of_mem hx
  rw[sum_app,List.map_cons,List.sum_cons,hz,Nat.sub_zero]at e2
  have hpos:∀ G:List S106,G≠[]→0<(G.map fun x=>2 ^ (m+1-occ (sym x) P)).sum:=by
    intro G hG
    cases G with
    | nil=>exact absurd rfl hG
    | cons y G=>rw[List.map_cons,List.sum_cons];have:0<2 ^ (m+1-occ (sym y) P):=Nat.pow_pos (by decide);omega
  cases A with
  | nil =>
    cases B with
    | nil=>simp at h2
    | cons y B=>have:=hpos (y :: B) (by simp);omega
  | cons y A=>have:=hpos (y :: A) (by simp);omega
theorem isort_srt {β:Type} (f:β→Int) (xs:List β):Srt f (isort f xs):=(isort_ok f xs).1
theorem bump_at (s:List Int):∀ (l:List Int) (t:Nat),(∀ q∈s,0≤q∧q<l.length)→t<l.length→0≤rd l t→rd l t+s.count (t:Int)≤1000000000000→rd (bump l s) t=rd l t+s.count (t:Int)∧(bump l s).length=l.length:=by
  induction s with
  | nil=>intro l t _ _ _ _;exact⟨by simp[bump],rfl⟩
  | cons q s ih =>
    intro l t hs ht h0 hb
    obtain⟨q1,q2⟩:=hs q (by simp)
    obtain⟨n,rfl⟩:=Int.eq_ofNat_of_zero_le q1
    rw[show bump l ((n:Int) :: s)=bump (l.set (n:Int).toNat (wrap64 (rd l n+1))) s from rfl]
    rw[List.count_cons]at hb ⊢
    simp only[Int.toNat_natCast]
    have e:rd (l.set n (wrap64 (rd l n+1))) t=rd l t+(if((n:Int) == (t:Int))=true then 1 else 0):=by
      rw[rd_at _ t (by rw[List.length_set];exact ht),List.getElem_set]
      by_cases c:n=t
      · subst c
        rw[if_pos rfl,if_pos (by simp),w64 (by omega) (by simp at hb;omega)]
      · rw[if_neg c,if_neg (by simp;omega),rd_at l t ht];simp
    obtain⟨i1,i2⟩:=ih (l.set n (wrap64 (rd l n+1))) t (fun x hx=>by rw[List.length_set];exact hs x (by simp[hx])) (by rw[List.length_set];exact ht) (by rw[e];split <;> omega) (by rw[e];by_cases c:((n:Int) == (t:Int))=true <;> simp only[c,if_true,Bool.false_eq_true,if_false]at hb ⊢ <;> push_cast at hb ⊢ <;> omega)
    refine⟨?_,by rw[i2,List.length_set]⟩
    rw[i1,e]
    by_cases c:((n:Int) == (t:Int))=true <;> simp only[c,if_true,Bool.false_eq_true,if_false] <;> push_cast <;> omega
theorem bumps_at (xs:List S106):∀ (l:List Int) (t:Nat),(∀ x∈xs,∀ q∈x.f1,0≤q∧q<l.length)→t<l.length→0≤rd l t→rd l t+occ t xs≤1000000000000→rd (bumps l xs) t=rd l t+occ t xs∧(bumps l xs).length=l.length:=by
  induction xs with
  | nil=>intro l t _ _ _ _;exact⟨by simp[bumps,occ],rfl⟩
  | cons x xs ih =>
    intro l t hs ht h0 hb
    rw[show bumps l (x :: xs)=bumps (bump l x.f1) xs from rfl]
    rw[occ_cons]at hb ⊢
    obtain⟨b1,b2⟩:=bump_at x.f1 l t (hs x (by simp)) ht h0 (by omega)
    obtain⟨i1,i2⟩:=ih (bump l x.f1) t (fun y hy=>by rw[b2];exact hs y (by simp[hy])) (by rw[b2];exact ht) (by rw[b1];omega) (by rw[b1];omega)
    exact⟨by rw[i1,b1];omega,by rw[i2,b2]⟩
theorem bumps_len (xs:List S106):∀ (l:List Int),(bumps l xs).length=l.length:=by
  have hb:∀ (s l:List Int),(bump l s).length=l.length:=by
    intro s
    induction s with
    | nil=>intro l;rfl
    | cons x s ih=>intro l;show(bump (l.set x.toNat (wrap64 (rd l x+1))) s).length=_;rw[ih,List.length_set]
  induction xs with
  | nil=>intro l;rfl
  | cons x xs ih=>intro l;rw[show bumps l (x :: xs)=bumps (bump l x.f1) xs from rfl,ih,hb]
theorem ins_perm {β:Type} (f:β→Int) (x:β) (ys:List β):(ins f x ys).Perm (x :: ys):=by
  induction ys with
  | nil=>exact List.Perm.refl _
  | cons y ys ih =>
    rw[ins]
    split
    · exact List.Perm.refl _
    · exact(List.Perm.cons y ih).trans (List.Perm.swap x y ys)
theorem isort_perm {β:Type} (f:β→Int) (xs:List β):(isort f xs).Perm xs:=by
  induction xs with
  | nil=>exact List.Perm.refl _
  | cons x xs ih=>exact(ins_perm f x _).trans (List.Perm.cons x ih)
theorem rawI_mem (xs:List Int):∀ (i:Nat) (x:S106),x∈rawI xs i→∃ j,j<xs.length∧x=⟨rd xs j,[((i+j:Nat):Int)]⟩∧rd xs j≠0:=by
  induction xs with
  | nil=>intro i x hx;simp[rawI]at hx
  | cons c cs ih =>
    intro i x hx
    rw[rawI]at hx
    have next:x∈rawI cs (i+1)→∃ j,j<(c :: cs).length∧x=⟨rd (c :: cs) j,[((i+j:Nat):Int)]⟩∧rd (c :: cs) j≠0:=by
      intro hx
      obtain⟨j,j1,j2,j3⟩:=ih (i+1) x hx
      have e:rd (c :: cs) ((j+1:Nat):Int)=rd cs j:=by simp[rd]
      exact⟨j+1,by simp;omega,by rw[j2,e,show i+1+j=i+(j+1)from by omega],by rw[e];exact j3⟩
    by_cases h:c=0
    · rw[if_pos h]at hx;exact next hx
    · rw[if_neg h]at hx
      rcases List.mem_cons.mp hx with rfl|hx
      · exact⟨0,by simp,by simp[rd],by simpa [rd] using h⟩
      · exact next hx
theorem rawI_nodup (xs:List Int):∀ i:Nat,((rawI xs i).map sym).Nodup∧∀ x∈rawI xs i,(i:Int)≤sym x:=by
  induction xs with
  | nil=>intro i;simp[rawI]
  | cons c cs ih =>
    intro i
    obtain⟨h1,h2⟩:=ih (i+1)
    rw[rawI]
    by_cases h:c=0
    · rw[if_pos h];exact⟨h1,fun x hx=>by have:=h2 x hx;omega⟩
    · rw[if_neg h,List.map_cons]
      refine⟨List.nodup_cons.mpr ⟨fun hm=>?_,h1⟩,fun x hx=>?_⟩
      · obtain⟨y,hy,he⟩:=List.mem_map.mp hm
        have:=h2 y hy
        rw[he]at this
        simp[sym]at this
        omega
      · rcases List.mem_cons.mp hx with rfl|hx
        · simp[sym]
        · have:=h2 x hx;omega
theorem room_raw (g:Int→Nat) (xs:List Int):∀ i:Nat,(∀ j:Nat,j<xs.length→(rd xs j=0→g ((i+j:Nat):Int)=0)∧(rd xs j≠0→1≤g ((i+j:Nat):Int)∧g ((i+j:Nat):Int)≤15))→
    roomL ((List.range xs.length).map fun j=>(g ((i+j:Nat):Int):Int))=(((rawI xs i).map fun x=>2 ^ (15-g (sym x))).sum:Nat):=by
  induction xs with
  | nil=>intro i _;simp[roomL,rawI]
  | cons c cs ih =>
    intro i h
    have ih:=ih (i+1) fun j hj=>by
      have:=h (j+1) (by simp;omega)
      rw[show i+1+j=i+(j+1)from by omega]
      simpa [rd] using this
    have h0:=h 0 (by simp)
    simp only[rd,Int.toNat_natCast,Nat.add_zero,List.getD_cons_zero]at h0
    rw[List.length_cons,List.range_succ_eq_map,List.map_cons,List.map_map,roomL,rawI]
    have e:((fun j=>(g ((i+j:Nat):Int):Int)) ∘ Nat.succ)=fun j=>(g ((i+1+j:Nat):Int):Int):=by
      funext j;simp only[Function.comp];rw[show i+Nat.succ j=i+1+j from by omega]
    rw[e,ih,Nat.add_zero]
    by_cases hc:c=0
    · rw[if_pos hc,h0.1 hc];simp
    · rw[if_neg hc]
      obtain⟨a1,a2⟩:=h0.2 hc
      rw[if_pos (by omega),List.map_cons,List.sum_cons,show(15:Int)-(g (i:Int):Int)=((15-g (i:Int):Nat):Int)from by omega,p2_nat]
      simp[sym]
theorem packI_syms (p:Int→Prop) (n:Nat):∀ L:List S106,L.length≤n→(∀ a∈L,∀ s∈a.f1,p s)→∀ a∈packI L,∀ s∈a.f1,p s:=by
  induction n using Nat.strongRecOn with
  | _ n ih =>
    intro L hn h
    match L with
    | []=>simp[packI]
    | [x]=>simp[packI]
    | x :: y :: r =>
      simp only[List.length_cons]at hn
      intro a ha s hs
      rw[packI]at ha
      rcases List.mem_cons.mp ha with rfl|ha
      · rcases List.mem_append.mp hs with hs|hs
        · exact h x (by simp) s hs
        · exact h y (by simp) s hs
      · exact ih (n-2) (by omega) r (by omega) (fun b hb=>h b (by simp[hb])) a ha s hs
theorem listI_syms (p:Int→Prop) (F:List S106) (h:∀ a∈F,∀ s∈a.f1,p s) (m:Nat):∀ a∈listI F m,∀ s∈a.f1,p s:=by
  induction m with
  | zero=>exact h
  | succ m ih =>
    intro a ha s hs
    rw[listI]at ha
    rcases mrg_mem _ _ _ _ ha with ha|ha
    · exact h a ha s hs
    · exact packI_syms p _ _ (Nat.le_refl _) ih a ha s hs
theorem packI_len (n:Nat):∀ L:List S106,L.length≤n→(packI L).length=L.length / 2:=by
  induction n using Nat.strongRecOn with
  | _ n ih =>
    intro L hn
    match L with
    | []=>simp[packI]
    | [x]=>simp[packI]
    | x :: y :: r =>
      simp only[List.length_cons]at hn
      rw[packI,List.length_cons,ih (n-2) (by omega) r (by omega),List.length_cons,List.length_cons]
      omega
theorem listI_long (F:List S106) (m:Nat):F.length≤2 ^ m*(2*F.length-(listI F m).length)∧(listI F m).length≤2*F.length∧2 ^ m*(2*F.length-(listI F m).length)≤F.length+(2 ^ m-1):=by
  induction m with
  | zero=>simp[listI];omega
  | succ m ih =>
    obtain⟨i1,i2,i3⟩:=ih
    have e:(listI F (m+1)).length=F.length+(listI F m).length / 2:=by rw[listI,mrg_len,packI_len _ _ (Nat.le_refl _)]
    rw[e]
    have hp:1≤2 ^ m:=Nat.one_le_two_pow
    obtain⟨z,hz⟩:∃ z,z=2*F.length-(listI F m).length:=⟨_,rfl⟩
    rw[← hz]at i1 i3
    have e2:2*F.length-(F.length+(listI F m).length / 2)=(z+1) / 2:=by omega
    rw[e2,Nat.pow_succ]
    generalize 2 ^ m=P at i1 i3 hp ⊢
    have h1:z≤2*((z+1) / 2):=by omega
    have h2:2*((z+1) / 2)≤z+1:=by omega
    have g1:P*z≤P*(2*((z+1) / 2)):=Nat.mul_le_mul_left P h1
    have g2:P*(2*((z+1) / 2))≤P*(z+1):=Nat.mul_le_mul_left P h2
    rw[Nat.mul_succ]at g2
    rw[← Nat.mul_assoc]at g1 g2
    refine⟨by omega,by omega,by omega⟩
theorem listI_enough (F:List S106) (m:Nat) (h:F.length≤2 ^ (m+1)):2*F.length-2≤(listI F m).length:=by
  obtain⟨_,i2,i3⟩:=listI_long F m
  refine Decidable.byContradiction fun c=>?_
  have hz:3≤2*F.length-(listI F m).length:=by omega
  have:=Nat.mul_le_mul_left (2 ^ m) hz
  have hp:1≤2 ^ m:=Nat.one_le_two_pow
  rw[Nat.pow_succ]at h
  omega
theorem lens_ok (cs:List Int) (hc:∀ c∈cs,0≤c) (m:Nat) (hm:m+1≤15) (F:List S106) (hF:F=isort S106.f0 (rawI cs 0)) (h2:2≤F.length) (hl:F.length≤2 ^ (m+1)) (r:List Int) (hr:r=bumps (List.replicate cs.length 0) ((listI F m).take (2*F.length-2))) :
    r.length=cs.length∧roomL r=32768∧(∀ j:Nat,j<cs.length→(rd cs j=0→rd r j=0)∧(rd cs j≠0→1≤rd r j∧rd r j≤(m+1:Nat))):=by
  have hperm:F.Perm (rawI cs 0):=by rw[hF];exact isort_perm _ _
  have hmem:∀ x∈F,∃ j,j<cs.length∧x=⟨rd cs j,[(j:Int)]⟩∧rd cs j≠0:=fun x hx=>by
    obtain⟨j,j1,j2,j3⟩:=rawI_mem cs 0 x (hperm.subset hx)
    exact⟨j,j1,by rw[j2,Nat.zero_add],j3⟩
  have h1:∀ x∈F,x.f1=[sym x]:=fun x hx=>by obtain⟨j,_,rfl,_⟩:=hmem x hx;rfl
  have h0:∀ x∈F,0≤x.f0:=fun x hx=>by
    obtain⟨j,j1,rfl,_⟩:=hmem x hx
    show 0≤rd cs j
    rw[rd_at cs j j1]
    exact hc _ (List.getElem_mem j1)
  have hn:(F.map sym).Nodup:=(hperm.map sym).nodup_iff.mpr (rawI_nodup cs 0).1
  obtain⟨k1,k2⟩:=kraft F (by rw[hF];exact isort_srt _ _) h0 h1 hn h2 m (listI_enough F m hl)
  have hs:∀ a∈(listI F m).take (2*F.length-2),∀ s∈a.f1,0≤s∧s<(cs.length:Int)∧rd cs s≠0:=fun a ha=>listI_syms (fun s=>0≤s∧s<(cs.length:Int)∧rd cs s≠0) F (fun x hx s hs=>by
    obtain⟨j,j1,rfl,j3⟩:=hmem x hx
    have e:s=j:=by simpa using hs
    subst e
    exact⟨by omega,by omega,j3⟩) m a ((List.take_sublist _ _).subset ha)
  generalize (listI F m).take (2*F.length-2)=P at hr k1 k2 hs
  have hin:∀ j:Nat,j<cs.length→rd cs j≠0→(⟨rd cs j,[(j:Int)]⟩:S106)∈F:=by
    intro j hj h
    refine hperm.symm.subset ?_
    have:∀ (cs:List Int) (i j:Nat),j<cs.length→rd cs j≠0→(⟨rd cs j,[((i+j:Nat):Int)]⟩:S106)∈rawI cs i:=by
      intro cs
      induction cs with
      | nil=>intro i j hj;exact absurd hj (Nat.not_lt_zero _)
      | cons c cs ih =>
        intro i j hj h
        rw[rawI]
        cases j with
        | zero =>
          have h:c≠0:=by simpa [rd] using h
          rw[if_neg h]
          simp[rd]
        | succ j =>
          have e:rd (c :: cs) ((j+1:Nat):Int)=rd cs j:=by simp[rd]
          rw[e]at h ⊢
          have:=ih (i+1) j (by simpa using hj) h
          rw[show i+1+j=i+(j+1)from by omega]at this
          split
          · exact this
          · exact List.mem_cons_of_mem _ this
    have:=this cs 0 j hj h
    rwa [Nat.zero_add]at this
  have ho:∀ j:Nat,j<cs.length→(rd cs j=0→occ (j:Int) P=0)∧(rd cs j≠0→1≤occ (j:Int) P∧occ (j:Int) P≤m+1):=by
    intro j hj
    refine⟨fun h=>occ_zero _ _ fun x hx hjx=>(hs x hx _ hjx).2.2 h,fun h=>?_⟩
    exact k1 _ (hin j hj h)
  have hlen:r.length=cs.length:=by rw[hr,bumps_len,List.length_replicate]
  have hat:∀ j:Nat,j<cs.length→rd r j=occ (j:Int) P:=by
    intro j hj
    have z:rd (List.replicate cs.length (0:Int)) j=0:=by rw[rd_at _ j (by rw[List.length_replicate];exact hj)];simp
    have b:occ (j:Int) P≤15:=by
      by_cases c:rd cs j=0
      · rw[(ho j hj).1 c];omega
      · have:=((ho j hj).2 c).2;omega
    have:=(bumps_at P (List.replicate cs.length 0) j (fun x hx q hq=>by rw[List.length_replicate];exact⟨(hs x hx q hq).1,(hs x hx q hq).2.1⟩) (by rw[List.length_replicate];exact hj) (by rw[z];omega) (by rw[z];omega)).1
    rw[hr,this,z,Int.zero_add]
  refine⟨hlen,?_,fun j hj=>?_⟩
  · have e:r=(List.range cs.length).map fun j=>((occ ((0+j:Nat):Int) P:Nat):Int):=by
      refine List.ext_getElem (by simp[hlen]) fun j a b=>?_
      have:=hat j (by omega)
      rw[rd_at r j a]at this
      rw[this];simp
    rw[e,room_raw (fun s=>occ s P) cs 0 fun j hj=>by
      rw[Nat.zero_add]
      exact⟨(ho j hj).1,fun h=>⟨((ho j hj).2 h).1,by have:=((ho j hj).2 h).2;omega⟩⟩]
    have e2:((rawI cs 0).map fun x=>2 ^ (15-occ (sym x) P)).sum=(F.map fun x=>2 ^ (15-occ (sym x) P)).sum:=(hperm.symm.map _).sum_nat
    have e3:∀ G:List S106,(∀ x∈G,occ (sym x) P≤m+1)→(G.map fun x=>2 ^ (15-occ (sym x) P)).sum=2 ^ (15-(m+1))*(G.map fun x=>2 ^ (m+1-occ (sym x) P)).sum:=by
      intro G
      induction G with
      | nil=>intro _;simp
      | cons x G ih =>
        intro hG
        have hx:=hG x (by simp)
        rw[List.map_cons,List.sum_cons,List.map_cons,List.sum_cons,ih fun y hy=>hG y (by simp[hy]),Nat.mul_add,← Nat.pow_add,show 15-(m+1)+(m+1-occ (sym x) P)=15-occ (sym x) P from by omega]
    rw[e2,e3 F fun x hx=>(k1 x hx).2,k2,← Nat.pow_add,show 15-(m+1)+(m+1)=15 from by omega]
    rfl
  · rw[hat j hj]
    exact⟨fun h=>by rw[(ho j hj).1 h];rfl,fun h=>by have:=(ho j hj).2 h;omega⟩
def asg (z:Int):List Int→Nat→Int→List Int→List Int×Int
  | [],_,nx,l=>(l,nx)
  | x :: xs,i,nx,l=>if x=z then asg z xs (i+1) (wrap64 (nx+1)) (l.set i nx)else asg z xs (i+1) nx l
theorem asg_len (z:Int) (xs:List Int):∀ (i:Nat) (nx:Int) (l:List Int),(asg z xs i nx l).1.length=l.length:=by
  induction xs with
  | nil=>intros;rfl
  | cons x xs ih =>
    intro i nx l
    rw[asg]
    split
    · rw[ih,List.length_set]
    · rw[ih]
theorem spec_CodesOf_l1 (xs:List Int) (hx:xs.length≤1000) (z:Nat) (hz:z≤100) (d:Nat):∀ (k i:Nat) (nx:Int) (l:List Int),i≤xs.length→xs.length-i=d→l.length=xs.length→spec_CodesOf.l1 (k+d+1) xs l nx z i=spec_CodesOf.l0 k xs (asg z (xs.drop i) i nx l).1 (asg z (xs.drop i) i nx l).2 ((z+1:Nat):Int):=by
  induction d with
  | zero =>
    intro k i nx l hi hd hl
    simp only[spec_CodesOf.l1,Nat.add_zero]
    rw[if_neg (by omega),w64 (by omega) (by omega),List.drop_eq_nil_of_le (by omega)]
    rfl
  | succ d ih =>
    intro k i nx l hi hd hl
    have lt:i<xs.length:=by omega
    obtain⟨K,hK⟩:∃ K,K=k+d+1:=⟨_,rfl⟩
    rw[show k+(d+1)+1=K+1 from by omega]
    simp only[spec_CodesOf.l1]
    rw[if_pos (by omega),if_pos (by omega),rd_at xs i lt,List.drop_eq_getElem_cons lt,asg]
    by_cases c:xs[i]=(z:Int)
    · rw[if_pos c,if_pos (by omega),if_pos c,w64 (x:=(i:Int)+1) (by omega) (by omega),hK]
      have:=ih k (i+1) (wrap64 (nx+1)) (l.set i nx) (by omega) (by omega) (by rw[List.length_set];exact hl)
      push_cast at this
      exact this
    · rw[if_neg c,if_neg c,w64 (x:=(i:Int)+1) (by omega) (by omega),hK]
      have:=ih k (i+1) nx l (by omega) (by omega) hl
      push_cast at this
      exact this
def asgs (xs:List Int):Nat→Nat→Int→List Int→List Int
  | 0,_,_,l=>l
  | d+1,z,nx,l=>asgs xs d (z+1) (asg z xs 0 (wrap64 (2*nx)) l).2 (asg z xs 0 (wrap64 (2*nx)) l).1
theorem spec_CodesOf_l0 (xs:List Int) (hx:xs.length≤1000) (d:Nat):∀ (k z:Nat) (nx:Int) (l:List Int),z+d=16→l.length=xs.length→d*1010+1≤k→spec_CodesOf.l0 k xs l nx z=some (asgs xs d z nx l,true):=by
  induction d with
  | zero =>
    intro k z nx l hz hl hk
    rw[Nat.zero_mul]at hk
    obtain⟨k,rfl⟩:∃ m,k=m+1:=⟨k-1,by omega⟩
    simp only[spec_CodesOf.l0]
    rw[if_neg (by omega)];rfl
  | succ d ih =>
    intro k z nx l hz hl hk
    rw[Nat.succ_mul]at hk
    obtain⟨y,hy⟩:∃ y,y=d*1010:=⟨_,rfl⟩
    rw[← hy]at hk ih
    clear hy
    obtain⟨k,rfl⟩:∃ m,k=m+xs.length+1+1:=⟨k-xs.length-2,by omega⟩
    obtain⟨K,hK⟩:∃ K,K=k+xs.length+1:=⟨_,rfl⟩
    rw[← hK]
    simp only[spec_CodesOf.l0]
    rw[if_pos (by omega),hK]
    have s:=spec_CodesOf_l1 xs hx z (by omega) xs.length k 0 (wrap64 (2*nx)) l (by omega) (by omega) hl
    rw[show((0:Nat):Int)=0 from rfl,List.drop_zero]at s
    rw[s,ih k (z+1) _ _ (by omega) (by rw[asg_len];exact hl) (by omega),asgs]
def codesL (xs:List Int):List Int×Bool:=if kindL xs=0∨kindL xs=5 then([],false)else(asgs xs 15 1 0 (List.replicate xs.length 0),true)
theorem spec_CodesOf_eq (xs:List Int) (k:Nat) (hk:17000≤k):spec_CodesOf.f k xs=some (codesL xs):=by
  unfold spec_CodesOf.f codesL
  rw[spec_CodeKind_eq xs k (by omega),Option.bind_some]
  obtain⟨k,rfl⟩:∃ m,k=m+1:=⟨k-1,by omega⟩
  by_cases c:kindL xs=0
  · rw[if_pos c,if_pos (Or.inl c)]
    simp only[spec_CodesOf.j0,if_true]
  · rw[if_neg c]
    have hl:(xs.length:Int)≤288:=by
      unfold kindL at c
      by_cases g:(xs.length:Int)≤288∧xs.all (inB 15)=true
      · exact g.1
      · rw[if_neg g]at c;exact absurd rfl c
    simp only[spec_CodesOf.j0]
    by_cases c5:kindL xs=5
    · rw[if_pos (by simpa using c5),if_pos (Or.inr c5)]
    · rw[if_neg (by simpa using c5),if_pos (by omega),if_pos (by omega),if_neg (fun h=>h.elim c c5)]
      have:=spec_CodesOf_l0 xs (by omega) 15 k 1 0 (List.replicate xs.length 0) (by omega) (by simp) (by omega)
      rw[show((1:Nat):Int)=1 from rfl]at this
      rw[Int.toNat_natCast,this]
def cntE (n:Int) (xs:List Int):Nat:=(xs.takeWhile fun x=>decide (x=n)).length
theorem cntE_le (n:Int) (xs:List Int):cntE n xs≤xs.length:=(List.takeWhile_prefix (l:=xs) _).length_le
theorem cntE_drop (n:Int) (xs:List Int) (i:Nat) (h:i<xs.length):cntE n (xs.drop i)=if xs[i]=n then cntE n (xs.drop (i+1))+1 else 0:=by
  rw[List.drop_eq_getElem_cons h,cntE,List.takeWhile_cons]
  by_cases c:xs[i]=n
  · rw[if_pos (by simpa using c),if_pos c];rfl
  · rw[if_neg (by simpa using c),if_neg c];rfl
theorem impl_sameFrom_l0 (xs:List Int) (hx:xs.length≤1000000) (a:Nat) (n:Int) (d:Nat):∀ (k j:Nat),a+j≤xs.length→xs.length-(a+j)=d→d+1≤k→impl_sameFrom.l0 k xs a n j=some ((j+cntE n (xs.drop (a+j)):Nat):Int):=by
  induction d with
  | zero =>
    intro k j h1 h2 hk
    obtain⟨k,rfl⟩:∃ m,k=m+1:=⟨k-1,by omega⟩
    simp only[impl_sameFrom.l0]
    rw[w64 (by omega) (by omega),if_neg (by omega),List.drop_eq_nil_of_le (by omega)]
    simp[cntE]
  | succ d ih =>
    intro k j h1 h2 hk
    obtain⟨k,rfl⟩:∃ m,k=m+1:=⟨k-1,by omega⟩
    have lt:a+j<xs.length:=by omega
    simp only[impl_sameFrom.l0]
    rw[w64 (x:=(a:Int)+j) (by omega) (by omega),if_pos (by omega),if_pos (by omega),show(a:Int)+(j:Int)=((a+j:Nat):Int)from by push_cast;rfl,rd_at xs (a+j) lt,cntE_drop n xs (a+j) lt]
    by_cases c:xs[a+j]=n
    · rw[if_pos c,if_pos c,w64 (by omega) (by omega)]
      have:=ih k (j+1) (by omega) (by omega) (by omega)
      push_cast at this
      rw[this]
      congr 1
      push_cast
      rw[show a+(j+1)=a+j+1 from by omega]
      omega
    · rw[if_neg c,if_neg c];simp
theorem impl_sameFrom_eq (xs:List Int) (hx:xs.length≤1000000) (a:Nat) (ha:a≤xs.length) (n:Int) (k:Nat) (hk:xs.length+1≤k):impl_sameFrom.f k xs a n=some ((cntE n (xs.drop a):Nat):Int):=by
  unfold impl_sameFrom.f
  have:=impl_sameFrom_l0 xs hx a n (xs.length-a) k 0 (by omega) (by omega) (by omega)
  rw[show((0:Nat):Int)=0 from rfl]at this
  rw[this]
  simp
theorem spec_l05Same_l0 (xs:List Int) (hx:xs.length≤1000000) (a:Nat) (n:Int) (M:Nat) (hM:M≤1000) (d:Nat):∀ (k j:Nat),a+j≤xs.length→j≤M→xs.length-(a+j)=d→d+1≤k→spec_l05Same.l0 k xs a n M j=some ((min (j+cntE n (xs.drop (a+j))) M:Nat):Int):=by
  induction d with
  | zero =>
    intro k j h1 hj h2 hk
    obtain⟨k,rfl⟩:∃ m,k=m+1:=⟨k-1,by omega⟩
    simp only[spec_l05Same.l0]
    rw[w64 (by omega) (by omega),if_neg (by omega),List.drop_eq_nil_of_le (by omega)]
    simp[cntE]
    omega
  | succ d ih =>
    intro k j h1 hj h2 hk
    obtain⟨k,rfl⟩:∃ m,k=m+1:=⟨k-1,by omega⟩
    have lt:a+j<xs.length:=by omega
    simp only[spec_l05Same.l0]
    rw[w64 (x:=(a:Int)+j) (by omega) (by omega),if_pos (by omega)]
    by_cases e:j<M
    · rw[if_pos (by omega),if_pos (by omega),show(a:Int)+(j:Int)=((a+j:Nat):Int)from by push_cast;rfl,rd_at xs (a+j) lt,cntE_drop n xs (a+j) lt]
      by_cases c:xs[a+j]=n
      · rw[if_pos c,if_pos c,w64 (by omega) (by omega)]
        have:=ih k (j+1) (by omega) (by omega) (by omega) (by omega)
        push_cast at this
        rw[this]
        rw[show a+(j+1)=a+j+1 from by omega]
        congr 1
        push_cast
        omega
      · rw[if_neg c,if_neg c]
        congr 1
        omega
    · rw[if_neg (by omega)]
      congr 1
      omega
theorem spec_l05Same_eq (xs:List Int) (hx:xs.length≤1000000) (a:Nat) (ha:a≤xs.length) (n:Int) (M:Nat) (hM:M≤1000) (k:Nat) (hk:xs.length+1≤k):spec_l05Same.f k xs a n M=some ((min (cntE n (xs.drop a)) M:Nat):Int):=by
  unfold spec_l05Same.f
  have:=spec_l05Same_l0 xs hx a n M hM (xs.length-a) k 0 (by omega) (by omega) (by omega) (by omega)
  rw[show((0:Nat):Int)=0 from rfl]at this
  rw[this]
  simp
def stepR (xs:List Int) (i:Nat):Int×Int×Nat :=
  if 11≤min (cntE 0 (xs.drop i)) 138 then(18,((min (cntE 0 (xs.drop i)) 138:Nat):Int)-11,min (cntE 0 (xs.drop i)) 138)
  else if 3≤min (cntE 0 (xs.drop i)) 138 then(17,((min (cntE 0 (xs.drop i)) 138:Nat):Int)-3,min (cntE 0 (xs.drop i)) 138)
  else if 0<i∧3≤min (cntE (rd xs ((i-1:Nat):Int)) (xs.drop i)) 6 then(16,((min (cntE (rd xs ((i-1:Nat):Int)) (xs.drop i)) 6:Nat):Int)-3,min (cntE (rd xs ((i-1:Nat):Int)) (xs.drop i)) 6)
  else(rd xs i,0,1)
theorem stepR_bd (xs:List Int) (i:Nat) (h:i<xs.length):1≤(stepR xs i).2.2∧i+(stepR xs i).2.2≤xs.length:=by
  have a:=cntE_le 0 (xs.drop i)
  have b:=cntE_le (rd xs ((i-1:Nat):Int)) (xs.drop i)
  rw[List.length_drop]at a b
  unfold stepR
  split
  · exact⟨by simp only;omega,by simp only;omega⟩
  · split
    · exact⟨by simp only;omega,by simp only;omega⟩
    · split
      · exact⟨by simp only;omega,by simp only;omega⟩
      · exact⟨by simp only;omega,by simp only;omega⟩
theorem impl_runAt_eq (xs:List Int) (hx:xs.length≤1000000) (i:Nat) (h:i<xs.length) (k:Nat) (hk:xs.length+1≤k):impl_runAt.f k xs i=some ((stepR xs i).1,(stepR xs i).2.1,((stepR xs i).2.2:Int)):=by
  have a:=cntE_le 0 (xs.drop i)
  have b:=cntE_le (rd xs ((i-1:Nat):Int)) (xs.drop i)
  rw[List.length_drop]at a b
  have m1:mn ((cntE 0 (xs.drop i):Nat):Int) 138=((min (cntE 0 (xs.drop i)) 138:Nat):Int):=by unfold mn;split <;> omega
  have m2:mn ((cntE (rd xs ((i-1:Nat):Int)) (xs.drop i):Nat):Int) 6=((min (cntE (rd xs ((i-1:Nat):Int)) (xs.drop i)) 6:Nat):Int):=by unfold mn;split <;> omega
  unfold impl_runAt.f stepR
  rw[impl_sameFrom_eq xs hx i (by omega) 0 k hk,Option.bind_some]
  by_cases c1:11≤min (cntE 0 (xs.drop i)) 138
  · rw[if_pos (by omega),if_pos c1,m1,w64 (by omega) (by omega)]
  · rw[if_neg (by omega),if_neg c1]
    by_cases c2:3≤min (cntE 0 (xs.drop i)) 138
    · rw[if_pos (by omega),if_pos c2,w64 (by omega) (by omega),show min (cntE 0 (xs.drop i)) 138=cntE 0 (xs.drop i)from by omega]
    · rw[if_neg (by omega),if_neg c2]
      by_cases c3:0<i
      · rw[if_pos (by omega),w64 (x:=(i:Int)-1) (by omega) (by omega),if_pos (by omega),if_pos (by omega),show(i:Int)-1=((i-1:Nat):Int)from by omega,impl_sameFrom_eq xs hx i (by omega) _ k hk,Option.bind_some,m2]
        by_cases c4:3≤min (cntE (rd xs ((i-1:Nat):Int)) (xs.drop i)) 6
        · rw[if_pos (by omega),if_pos ⟨c3,c4⟩,w64 (by omega) (by omega)]
        · rw[if_neg (by omega),if_pos (by omega),if_pos (by omega),if_neg (fun q=>c4 q.2)];rfl
      · rw[if_neg (by omega),if_pos (by omega),if_pos (by omega),if_neg (fun q=>c3 q.1)];rfl
def runsG:Nat→List Int→Nat→List S52
  | 0,_,_=>[]
  | d+1,xs,i=>if i<xs.length then⟨(stepR xs i).1,(stepR xs i).2.1⟩ :: runsG d xs (i+(stepR xs i).2.2)else[]
theorem impl_RunsOf_l0 (xs:List Int) (hx:xs.length≤1000000) (d:Nat):∀ (k i:Nat) (acc:List S52),i≤xs.length→xs.length-i≤d→acc.length+d≤2000000→d+xs.length+2≤k→impl_RunsOf.l0 k xs acc i=some (acc++runsG d xs i,true):=by
  induction d with
  | zero =>
    intro k i acc h1 h2 h3 hk
    obtain⟨k,rfl⟩:∃ m,k=m+1:=⟨k-1,by omega⟩
    simp only[impl_RunsOf.l0]
    rw[if_neg (by omega)];simp[runsG]
  | succ d ih =>
    intro k i acc h1 h2 h3 hk
    obtain⟨k,rfl⟩:∃ m,k=m+1:=⟨k-1,by omega⟩
    simp only[impl_RunsOf.l0,runsG]
    by_cases c:i<xs.length
    · obtain⟨b1,b2⟩:=stepR_bd xs i c
      rw[if_pos (by omega),if_pos c,impl_runAt_eq xs hx i c k (by omega),Option.bind_some]
      simp only
      rw[if_pos (by omega),w64 (by omega) (by omega)]
      have:=ih k (i+(stepR xs i).2.2) (acc++[⟨(stepR xs i).1,(stepR xs i).2.1⟩]) b2 (by omega) (by simp;omega) (by omega)
      push_cast at this
      rw[this]
      simp
    · rw[if_neg (by omega),if_neg c];simp
theorem spec_RunsOf_l0 (xs:List Int) (hx:xs.length≤1000000) (d:Nat):∀ (k i:Nat) (acc:List S52),i≤xs.length→xs.length-i≤d→acc.length+d≤2000000→2*d+xs.length+3≤k→spec_RunsOf.l0 k xs acc i=some (acc++runsG d xs i,true):=by
  induction d with
  | zero =>
    intro k i acc h1 h2 h3 hk
    obtain⟨k,rfl⟩:∃ m,k=m+1:=⟨k-1,by omega⟩
    simp only[spec_RunsOf.l0]
    rw[if_neg (by omega)];simp[runsG]
  | succ d ih =>
    intro k i acc h1 h2 h3 hk
    obtain⟨k,rfl⟩:∃ m,k=m+1+1:=⟨k-2,by omega⟩
    have step:∀ (x6 x7:Nat),i<xs.length→x6=min (cntE 0 (xs.drop i)) 138→x7=(if 0<i then min (cntE (rd xs ((i-1:Nat):Int)) (xs.drop i)) 6 else 0)→spec_RunsOf.j1 (k+1) xs acc i x6 x7=some (acc++(⟨(stepR xs i).1,(stepR xs i).2.1⟩ :: runsG d xs (i+(stepR xs i).2.2)),true):=by
      intro x6 x7 c e6 e7
      obtain⟨b1,b2⟩:=stepR_bd xs i c
      have fin:=ih k (i+(stepR xs i).2.2) (acc++[⟨(stepR xs i).1,(stepR xs i).2.1⟩]) b2 (by omega) (by simp;omega) (by omega)
      push_cast at fin
      have fin2:some (acc++(⟨(stepR xs i).1,(stepR xs i).2.1⟩ :: runsG d xs (i+(stepR xs i).2.2)),true)=some (acc++[⟨(stepR xs i).1,(stepR xs i).2.1⟩]++runsG d xs (i+(stepR xs i).2.2),true):=by simp
      rw[fin2,← fin]
      simp only[spec_RunsOf.j1]
      unfold stepR at b2 ⊢
      by_cases c1:11≤min (cntE 0 (xs.drop i)) 138
      · rw[if_pos c1]at b2
        rw[if_pos (by omega),if_pos (by omega),if_pos c1,w64 (by omega) (by omega),w64 (by simp only at b2;omega) (by simp only at b2;omega),e6]
      · rw[if_neg c1]at b2
        rw[if_neg (by omega),if_neg c1]
        by_cases c2:3≤min (cntE 0 (xs.drop i)) 138
        · rw[if_pos c2]at b2
          rw[if_pos (by omega),if_pos (by omega),if_pos c2,w64 (by omega) (by omega),w64 (by simp only at b2;omega) (by simp only at b2;omega),e6]
        · rw[if_neg c2]at b2
          rw[if_neg (by omega),if_neg c2]
          by_cases c3:0<i∧3≤min (cntE (rd xs ((i-1:Nat):Int)) (xs.drop i)) 6
          · rw[if_pos c3]at b2
            rw[if_pos c3.1]at e7
            rw[if_pos (by omega),if_pos (by omega),if_pos c3,w64 (by omega) (by omega),w64 (by simp only at b2;omega) (by simp only at b2;omega),e7]
          · rw[if_neg c3]at b2
            have h7:¬(x7:Int)≥3:=by
              by_cases c4:0<i
              · rw[if_pos c4]at e7
                have:¬3≤min (cntE (rd xs ((i-1:Nat):Int)) (xs.drop i)) 6:=fun q=>c3 ⟨c4,q⟩
                omega
              · rw[if_neg c4]at e7;omega
            rw[if_neg h7,if_pos (by omega),if_pos (by omega),if_pos (by omega),if_neg c3,w64 (by omega) (by omega)]
            rfl
    simp only[spec_RunsOf.l0,runsG]
    by_cases c:i<xs.length
    · rw[if_pos (by omega),if_pos c,show(138:Int)=((138:Nat):Int)from rfl,spec_l05Same_eq xs hx i (by omega) 0 138 (by omega) (k+1) (by omega),Option.bind_some]
      by_cases c3:0<i
      · rw[if_pos (by omega),w64 (x:=(i:Int)-1) (by omega) (by omega),if_pos (by omega),if_pos (by omega),show(i:Int)-1=((i-1:Nat):Int)from by omega,show(6:Int)=((6:Nat):Int)from rfl,spec_l05Same_eq xs hx i (by omega) _ 6 (by omega) (k+1) (by omega),Option.bind_some]
        exact step _ _ c rfl (by rw[if_pos c3])
      · rw[if_neg (by omega)]
        exact step _ 0 c rfl (by rw[if_neg c3])
    · rw[if_neg (by omega),if_neg c];simp
def runsV (xs:List Int):List S52×Bool:=if(xs.length:Int)≤320∧xs.all (inB 15)=true then(runsG xs.length xs 0,true)else([],false)
theorem impl_RunsOf_eq (xs:List Int) (hx:xs.length≤1000000) (k:Nat) (hk:2*xs.length+1100≤k):impl_RunsOf.f k xs=some (runsV xs):=by
  unfold impl_RunsOf.f runsV
  rw[impl_lengthsOk_eq xs (by omega) 320 k (by omega),Option.bind_some]
  by_cases c:(xs.length:Int)≤320∧xs.all (inB 15)=true
  · rw[if_pos (by simp[c.2,c.1]),if_pos c]
    have:=impl_RunsOf_l0 xs hx xs.length k 0 [] (by omega) (by omega) (by simp;omega) (by omega)
    rw[show((0:Nat):Int)=0 from rfl]at this
    rw[this,List.nil_append]
  · rw[if_neg (by intro h;simp only[Bool.and_eq_true,decide_eq_true_eq]at h;exact c ⟨h.2,h.1⟩),if_neg c]
theorem spec_RunsOf_eq (xs:List Int) (hx:xs.length≤1000000) (k:Nat) (hk:3*xs.length+1100≤k):spec_RunsOf.f k xs=some (runsV xs):=by
  unfold spec_RunsOf.f spec_l05Ok.f runsV
  rw[spec_l03Room_eq xs 320 (by omega) k (by omega),Option.bind_some,Option.bind_some,Option.bind_some]
  by_cases c:(xs.length:Int)≤320∧xs.all (inB 15)=true
  · rw[if_pos c,if_pos rfl,if_pos c]
    have:=spec_RunsOf_l0 xs hx xs.length k 0 [] (by omega) (by omega) (by simp;omega) (by omega)
    rw[show((0:Nat):Int)=0 from rfl]at this
    rw[this,List.nil_append]
  · rw[if_neg c,if_neg (by decide),if_neg c]
theorem trim_same (k:Nat):∀ (xs:List Int) (m i:Int),impl_trimmed.l0 k xs m i=spec_l09Trim.l0 k xs m i:=by
  induction k with
  | zero=>intros;rfl
  | succ k ih=>intro xs m i;simp only[impl_trimmed.l0,spec_l09Trim.l0,ih]
theorem trim_eq (k:Nat) (xs:List Int) (m:Int):impl_trimmed.f k xs m=spec_l09Trim.f k xs m:=trim_same k xs m _
def tokB (a b c:Int):Bool:=if b=0 then inB 255 a && decide (c=0)else decide (a=0) && (decide (3≤b) && decide (b≤258)) && (decide (1≤c) && decide (c≤32768))
theorem impl_TokenOk_eq (a b c:Int) (k:Nat) (hk:1≤k):impl_TokenOk.f k a b c=some (tokB a b c):=by
  obtain⟨k,rfl⟩:∃ m,k=m+1:=⟨k-1,by omega⟩
  unfold impl_TokenOk.f tokB
  by_cases hb:b=0
  · rw[if_pos hb,if_pos hb]
    simp only[impl_TokenOk.j0]
    by_cases hc:c=0
    · rw[if_pos (by simpa using hc),impl_within_eq,Option.bind_some,decide_eq_true hc,Bool.and_true];rfl
    · rw[if_neg (by simpa using hc),decide_eq_false hc,Bool.and_false]
      by_cases ha:a=0
      · rw[if_pos ha,impl_within_eq,Option.bind_some,hb];rfl
      · rw[if_neg ha]
  · rw[if_neg hb,if_neg hb]
    simp only[impl_TokenOk.j0]
    rw[if_neg (by decide)]
    by_cases ha:a=0
    · rw[if_pos ha,impl_within_eq,Option.bind_some,decide_eq_true ha,Bool.true_and]
      cases h:decide (3≤b) && decide (b≤258)with
      | true=>rw[if_pos rfl,impl_within_eq,Option.bind_some,Bool.true_and]
      | false=>rw[if_neg (by decide),Bool.false_and]
    · rw[if_neg ha,decide_eq_false ha];rfl
theorem spec_TokenOk_eq (a b c:Int):spec_TokenOk.f a b c=some (tokB a b c):=by
  unfold spec_TokenOk.f tokB
  by_cases hb:b=0
  · rw[if_pos hb,if_pos hb,spec_l01In_eq,Option.bind_some]
    show(if inB 255 a=true then some (c == 0)else some false)=_
    cases h:inB 255 a with
    | true =>
      rw[if_pos rfl,Bool.true_and]
      by_cases hc:c=0
      · subst hc;rfl
      · rw[decide_eq_false hc];simp[hc]
    | false=>rw[if_neg (by decide),Bool.false_and]
  · rw[if_neg hb,if_neg hb]
    by_cases ha:a=0
    · rw[if_pos ha,spec_l01In_eq,Option.bind_some,decide_eq_true ha,Bool.true_and]
      cases h:decide (3≤b) && decide (b≤258)with
      | true=>rw[if_pos rfl,spec_l01In_eq,Option.bind_some,Bool.true_and]
      | false=>rw[if_neg (by decide),Bool.false_and]
    · rw[if_neg ha,decide_eq_false ha];rfl
theorem rd_Token (xs:List S70) (i:Nat) (h:i<xs.length):rd_T70 xs i=xs[i]:=by simp[rd_T70,List.getD,h]
def tokA (t:S70):Bool:=tokB t.f0 t.f1 t.f2
theorem dropT_all (xs:List S70) (i:Nat) (h:i<xs.length):(xs.drop i).all tokA=(tokA xs[i] && (xs.drop (i+1)).all tokA):=by
  rw[List.drop_eq_getElem_cons h];rfl
theorem impl_tokensOk_l0 (xs:List S70) (hx:xs.length≤9223372036854775807) (d:Nat):∀ (k i:Nat),i≤xs.length→xs.length-i=d→d+1<k→impl_tokensOk.l0 k xs xs xs.length i=some ((xs.drop i).all tokA && decide ((xs.length:Int)≤12000)):=by
  induction d with
  | zero =>
    intro k i hi hd hk
    obtain⟨k,rfl⟩:∃ m,k=m+1:=⟨k-1,by omega⟩
    simp only[impl_tokensOk.l0]
    rw[if_neg (by omega),List.drop_eq_nil_of_le (by omega)]
    simp
  | succ d ih =>
    intro k i hi hd hk
    obtain⟨k,rfl⟩:∃ m,k=m+1:=⟨k-1,by omega⟩
    have lt:i<xs.length:=by omega
    simp only[impl_tokensOk.l0]
    rw[if_pos (by omega),if_pos (by omega),if_pos (by omega),rd_Token xs i lt,impl_TokenOk_eq _ _ _ k (by omega),Option.bind_some,dropT_all xs i lt,show tokB xs[i].f0 xs[i].f1 xs[i].f2=tokA xs[i]from rfl]
    cases c:tokA xs[i]with
    | false=>rw[if_neg (by decide)];simp
    | true =>
      rw[if_pos rfl,w64 (by omega) (by omega),Bool.true_and]
      have:=ih k (i+1) (by omega) (by omega) (by omega)
      push_cast at this
      exact this
theorem impl_tokensOk_eq (xs:List S70) (hx:xs.length≤9223372036854775807) (k:Nat) (hk:xs.length+1<k):impl_tokensOk.f k xs=some (xs.all tokA && decide ((xs.length:Int)≤12000)):=by
  unfold impl_tokensOk.f
  have:=impl_tokensOk_l0 xs hx xs.length k 0 (by omega) (by omega) hk
  rw[show((0:Nat):Int)=0 from rfl]at this
  rw[this,List.drop_zero]
theorem spec_tokensOk_l0 (xs:List S70) (hx:xs.length≤9223372036854775807) (d:Nat):∀ (k i:Nat),i≤xs.length→xs.length-i=d→d<k→spec_l09TokensOk.l0 k xs i=some ((xs.drop i).all tokA):=by
  induction d with
  | zero =>
    intro k i hi hd hk
    obtain⟨k,rfl⟩:∃ m,k=m+1:=⟨k-1,by omega⟩
    simp only[spec_l09TokensOk.l0]
    rw[if_neg (by omega),List.drop_eq_nil_of_le (by omega)]
    simp
  | succ d ih =>
    intro k i hi hd hk
    obtain⟨k,rfl⟩:∃ m,k=m+1:=⟨k-1,by omega⟩
    have lt:i<xs.length:=by omega
    simp only[spec_l09TokensOk.l0]
    rw[if_pos (by omega),if_pos (by omega),rd_Token xs i lt,spec_TokenOk_eq,Option.bind_some,dropT_all xs i lt,show tokB xs[i].f0 xs[i].f1 xs[i].f2=tokA xs[i]from rfl]
    cases c:tokA xs[i]with
    | false=>rw[if_neg (by decide)];simp
    | true =>
      rw[if_pos rfl,w64 (by omega) (by omega),Bool.true_and]
      have:=ih k (i+1) (by omega) (by omega) (by omega)
      push_cast at this
      exact this
theorem spec_tokensOk_eq (xs:List S70) (hx:xs.length≤9223372036854775807) (k:Nat) (hk:xs.length<k):spec_l09TokensOk.f k xs=some (xs.all tokA && decide ((xs.length:Int)≤12000)):=by
  unfold spec_l09TokensOk.f
  by_cases c:(xs.length:Int)>12000
  · rw[if_pos c,decide_eq_false (by omega),Bool.and_false]
  · rw[if_neg c]
    have:=spec_tokensOk_l0 xs hx xs.length k 0 (by omega) (by omega) hk
    rw[show((0:Nat):Int)=0 from rfl]at this
    rw[this,List.drop_zero,decide_eq_true (by omega),Bool.and_true]
set_option maxRecDepth 100000 in
theorem lencode_at:∀ n:Fin 256,impl_LengthCode.f 40 ((n.val:Int)+3)=spec_LengthCode.f 100 ((n.val:Int)+3):=by decide +kernel
def limL (xs:List Int) (a:Nat):List Int :=
  if(isort S106.f0 (rawI xs 0)).length=1 then(List.replicate xs.length 0).set (rd (rd_T106 (isort S106.f0 (rawI xs 0)) 0).f1 0).toNat 1
  else if(isort S106.f0 (rawI xs 0)).length<2 then List.replicate xs.length 0
  else bumps (List.replicate xs.length 0) ((listI (isort S106.f0 (rawI xs 0)) (a-1)).take (2*(isort S106.f0 (rawI xs 0)).length-2))
theorem rawI_len (xs:List Int):∀ i:Nat,xs.all (inB 12000)=true→(rawI xs i).length=posN xs:=by
  induction xs with
  | nil=>intro i _;rfl
  | cons c cs ih =>
    intro i h
    rw[List.all_cons,Bool.and_eq_true]at h
    have h1:=h.1
    simp only[inB,Bool.and_eq_true,decide_eq_true_eq]at h1
    rw[rawI,posN_cons]
    by_cases e:c=0
    · rw[if_pos e,if_neg (by omega),ih _ h.2]
    · rw[if_neg e,if_pos (by omega),List.length_cons,ih _ h.2]
theorem rawI_ok (xs:List Int) (h:xs.all (inB 12000)=true) (x:S106) (hx:x∈rawI xs 0):(0≤x.f0∧x.f0≤12000∧x.f1.length≤1)∧∃ j:Nat,j<xs.length∧x.f1=[(j:Int)]:=by
  obtain⟨j,j1,rfl,j3⟩:=rawI_mem xs 0 x hx
  have h1:=List.all_eq_true.mp h (rd xs j) (by rw[rd_at xs j j1];exact List.getElem_mem j1)
  simp only[inB,Bool.and_eq_true,decide_eq_true_eq]at h1
  exact⟨⟨h1.1,h1.2,by simp⟩,j,j1,by rw[Nat.zero_add]⟩
theorem firstI_ok (xs:List Int) (h:xs.all (inB 12000)=true):(∀ x∈isort S106.f0 (rawI xs 0),(0≤x.f0∧x.f0≤12000∧x.f1.length≤1)∧∃ j:Nat,j<xs.length∧x.f1=[(j:Int)])∧(isort S106.f0 (rawI xs 0)).length=posN xs :=
  ⟨fun x hx=>rawI_ok xs h x ((isort_perm _ _).subset hx),by rw[isort_len,rawI_len xs 0 h]⟩
theorem spec_Lim_eq (xs:List Int) (hx:xs.length≤288) (hall:xs.all (inB 12000)=true) (a:Nat) (ha1:1≤a) (ha:a≤15) (hn:posN xs≤2 ^ a) (k:Nat) (hk:20000000≤k):spec_LimitedLengths.f k xs a=some (limL xs a,true):=by
  obtain⟨hF,hFl⟩:=firstI_ok xs hall
  unfold spec_LimitedLengths.f
  rw[if_pos (by omega),spec_l01In_eq,Option.bind_some,show(decide ((1:Int)≤(a:Int)) && decide ((a:Int)≤15))=true by simp;omega]
  obtain⟨k,rfl⟩:∃ m,k=m+2*xs.length+2+1:=⟨k-2*xs.length-3,by omega⟩
  rw[spec_LimitedLengths.j0]
  have h0:=spec_Lim_l0 xs (by omega) a (by omega) xs.length k 0 0 (by omega) (by omega) (by omega) (by omega)
  rw[List.drop_zero,if_pos hall,Nat.zero_add]at h0
  refine Eq.trans h0 ?_
  have hp:p2 (a:Int)=((2 ^ a:Nat):Int):=p2_nat a
  rw[hp,decide_eq_false (by omega)]
  obtain⟨k,rfl⟩:∃ m,k=m+1:=⟨k-1,by omega⟩
  simp only[spec_LimitedLengths.j3,Bool.false_eq_true,if_false]
  rw[if_pos (by omega),if_pos (by simp;omega),Option.bind_some,spec_l04First_eq xs (by omega) k (by omega),Option.bind_some]
  have hs:=isort_srt S106.f0 (rawI xs 0)
  unfold limL
  generalize hFe:isort S106.f0 (rawI xs 0)=F at hF hFl hs ⊢
  rw[Int.toNat_natCast]
  by_cases e1:posN xs=1
  · obtain⟨x,rfl⟩:∃ x,F=[x]:=by
      cases F with
      | nil=>simp at hFl;omega
      | cons x F=>cases F with
        | nil=>exact⟨x,rfl⟩
        | cons y F=>simp at hFl;omega
    obtain⟨_,j,hj,hx1⟩:=hF x (by simp)
    have e2:rd_T106 [x] 0=x:=rfl
    have e3:rd [(j:Int)] 0=j:=rfl
    rw[if_pos (by omega),if_pos (by simp),e2,hx1,if_pos (by simp),e3,if_pos (by omega),if_pos (by simpa using hj)]
    obtain⟨k,rfl⟩:∃ m,k=m+1:=⟨k-1,by omega⟩
    rw[spec_LimitedLengths.j4,if_pos (by omega),if_pos (by simp)]
  · rw[if_neg (by omega)]
    obtain⟨k,rfl⟩:∃ m,k=m+1:=⟨k-1,by omega⟩
    rw[spec_LimitedLengths.j4,if_neg (show ¬F.length=1 by omega)]
    by_cases e2:posN xs<2
    · rw[if_pos (by omega),if_pos (by omega)]
    · rw[if_neg (by omega),if_neg (by omega)]
      have hFl288:F.length≤288:=by rw[hFl];have:=posN_le xs;omega
      have hF0:∀ x∈F,0≤x.f0∧x.f0≤12000∧x.f1.length≤1:=fun x hx=>(hF x hx).1
      obtain⟨k,rfl⟩:∃ m,k=m+(a-1)+1:=⟨k-a,by omega⟩
      have h1:=spec_Lim_l1 F hF0 hFl288 (posN xs:Int) (List.replicate xs.length 0) a ha (a-1) k 0 (by omega) (by omega)
      rw[show listI F 0=F from rfl]at h1
      refine Eq.trans h1 ?_
      rw[Nat.zero_add]
      obtain⟨b1,b2⟩:=listI_bd F hF0 (a-1)
      obtain⟨M,hM⟩:∃ M:Nat,M=16384:=⟨_,rfl⟩
      have hp14:2 ^ (a-1)≤M:=by rw[hM];exact Nat.le_trans (Nat.pow_le_pow_right (by decide) (show a-1≤14 by omega)) (by decide)
      have hen:=listI_enough F (a-1) (by rw[show a-1+1=a by omega];omega)
      have hsy:=listI_syms (fun s=>0≤s∧s<(xs.length:Int)) F (fun x hx s hs=>by
        obtain⟨_,j,hj,hx1⟩:=hF x hx
        rw[hx1]at hs
        rw[List.mem_singleton.mp hs]
        omega) (a-1)
      have h2:=spec_Lim_l2 (posN xs) ⟨by omega,by have:=posN_le xs;omega⟩ (listI F (a-1)) (by omega) (by omega) M (by omega) (fun x hx=>Nat.le_trans (b1 x hx).2.2 hp14) xs.length (fun x hx s hs=>hsy x hx s hs) (2*posN xs-2) k 0 (List.replicate xs.length 0) (by omega) (by omega) (by simp) (by
        have h4:2*posN xs-2≤574:=by have:=posN_le xs;omega
        have h3:(2*posN xs-2)*(M+2)≤574*(M+2):=Nat.mul_le_mul_right (M+2) h4
        generalize (2*posN xs-2)*(M+2)=z at h3 ⊢
        omega)
      rw[List.drop_zero,← hFl]at h2
      rw[← hFl]
      exact h2
theorem cntB_cons (x:Int) (xs:List Int) (n:Nat):cntB (x :: xs) n=cntB xs n+(if n≠0∧x=(n:Int)then 1 else 0):=by
  unfold cntB
  by_cases h0:n=0
  · rw[if_pos h0,if_pos h0,if_neg (by omega)]
    rfl
  · rw[if_neg h0,if_neg h0,List.count_cons]
    by_cases e:x=(n:Int)
    · rw[if_pos (show n≠0∧x=(n:Int)from⟨h0,e⟩),if_pos (by simp[e])]
      push_cast
      rfl
    · rw[if_neg (show ¬(n≠0∧x=(n:Int))from fun h=>e h.2),if_neg (by simp[e])]
      push_cast
      omega
theorem sumB_cons (x:Int) (xs:List Int) (N:Nat) (hN:N≤15):sumB (x :: xs) N=sumB xs N+(if 1≤x∧x≤(N:Int)then p2 (15-x)else 0):=by
  induction N with
  | zero=>rw[sumB,sumB,if_neg (by omega)];rfl
  | succ N ih =>
    rw[sumB,sumB,ih (by omega),cntB_cons,Int.add_mul]
    have hp:(2:Int) ^ (15-(N+1))=p2 (15-((N+1:Nat):Int)):=by
      unfold p2
      rw[show(15-((N+1:Nat):Int)).toNat=15-(N+1)by omega]
    rw[hp]
    by_cases e:x=((N+1:Nat):Int)
    · rw[if_neg (by omega),if_pos ⟨by omega,e⟩,if_pos (by omega),← e,Int.one_mul]
      omega
    · rw[if_neg (show ¬(N+1≠0∧x=((N+1:Nat):Int))from fun h=>e h.2),Int.zero_mul]
      by_cases e2:1≤x∧x≤(N:Int)
      · rw[if_pos e2,if_pos (by omega)]
        omega
      · rw[if_neg e2,if_neg (by omega)]
        omega
theorem symB_cons (x:Int) (xs:List Int) (N:Nat):symB (x :: xs) N=symB xs N+(if 1≤x∧x≤(N:Int)then 1 else 0):=by
  induction N with
  | zero=>rw[symB,symB,if_neg (by omega)];rfl
  | succ N ih =>
    rw[symB,symB,ih,cntB_cons]
    by_cases e:x=((N+1:Nat):Int)
    · rw[if_neg (by omega),if_pos ⟨by omega,e⟩,if_pos (by omega)]
      omega
    · rw[if_neg (show ¬(N+1≠0∧x=((N+1:Nat):Int))from fun h=>e h.2)]
      by_cases e2:1≤x∧x≤(N:Int)
      · rw[if_pos e2,if_pos (by omega)]
        omega
      · rw[if_neg e2,if_neg (by omega)]
        omega
theorem nil_B (N:Nat):sumB [] N=0∧symB [] N=0:=by
  induction N with
  | zero=>exact⟨rfl,rfl⟩
  | succ N ih =>
    rw[sumB,symB,ih.1,ih.2]
    have:cntB [] (N+1)=0:=by unfold cntB;rw[if_neg (by omega)];rfl
    rw[this]
    simp
theorem sums_B (xs:List Int) (h:xs.all (inB 15)=true):sumB xs 15=roomL xs∧symB xs 15=(posN xs:Int):=by
  induction xs with
  | nil=>exact nil_B 15
  | cons x xs ih =>
    rw[List.all_cons,Bool.and_eq_true]at h
    obtain⟨i1,i2⟩:=ih h.2
    have hb:=h.1
    simp only[inB,Bool.and_eq_true,decide_eq_true_eq]at hb
    rw[sumB_cons x xs 15 (by omega),symB_cons,i1,i2,roomL,posN_cons]
    by_cases e:x>0
    · rw[if_pos (by omega),if_pos e,if_pos (by omega),if_pos e]
      push_cast
      omega
    · rw[if_neg (by omega),if_neg e,if_neg (by omega),if_neg e]
      omega
theorem room_zero (xs:List Int) (h:xs.all (inB 15)=true):(posN xs=0→roomL xs=0)∧(posN xs≠0→1≤roomL xs)∧0≤roomL xs∧(posN xs=0→cntB xs 1=0)∧(posN xs=1→∃ x:Int,1≤x∧x≤15∧roomL xs=p2 (15-x)∧cntB xs 1=if x=1 then 1 else 0):=by
  induction xs with
  | nil=>exact⟨fun _=>rfl,fun h=>absurd rfl h,Int.le_refl _,fun _=>rfl,fun h=>by cases h⟩
  | cons x xs ih =>
    rw[List.all_cons,Bool.and_eq_true]at h
    obtain⟨i1,i2,i3,i4,i5⟩:=ih h.2
    have hb:=h.1
    simp only[inB,Bool.and_eq_true,decide_eq_true_eq]at hb
    have hp:=p2_pos (15-x)
    rw[roomL,posN_cons,cntB_cons]
    by_cases e:x>0
    · rw[if_pos e,if_pos e]
      refine⟨fun h=>by omega,fun _=>by omega,by omega,fun h=>by omega,fun h=>⟨x,by omega,by omega,by rw[i1 (by omega)];omega,?_⟩⟩
      rw[i4 (by omega)]
      by_cases e1:x=1
      · rw[if_pos ⟨by omega,by omega⟩,if_pos e1];rfl
      · rw[if_neg (fun h=>e1 (by have:=h.2;omega)),if_neg e1];rfl
    · rw[if_neg e,if_neg e,if_neg (show ¬(1≠0∧x=((1:Nat):Int))from fun h=>by have:=h.2;omega),Int.add_zero,Int.zero_add]
      exact⟨i1,i2,i3,i4,i5⟩
theorem p2_half:∀ m:Fin 16,1≤m.val→(p2 (15-(m.val:Int))=16384↔m.val=1):=by decide
theorem kindB_eq (xs:List Int):kindB xs=kindL xs:=by
  unfold kindB kindL okB
  have hall:(xs.all fun x=>decide (0≤x) && decide (x≤15))=xs.all (inB 15):=rfl
  rw[hall]
  by_cases h:(xs.length:Int)≤288∧xs.all (inB 15)=true
  · rw[if_pos h,h.2,Bool.true_and,if_pos (decide_eq_true (by omega))]
    obtain⟨s1,s2⟩:=sums_B xs h.2
    obtain⟨r1,r2,r3,r4,r5⟩:=room_zero xs h.2
    rw[s1,s2]
    unfold kindN
    by_cases e0:posN xs=0
    · rw[if_pos e0,if_pos (r1 e0)]
    · have:=r2 e0
      rw[if_neg e0,if_neg (by omega)]
      by_cases e1:roomL xs=32768
      · rw[if_pos e1,if_pos e1]
      · rw[if_neg e1,if_neg e1]
        by_cases e2:roomL xs>32768
        · rw[if_pos e2,if_pos e2]
        · rw[if_neg e2,if_neg e2]
          by_cases e3:posN xs=1
          · obtain⟨x,x1,x2,x3,x4⟩:=r5 e3
            obtain⟨m,rfl⟩:=Int.eq_ofNat_of_zero_le (show 0≤x by omega)
            have hh:=p2_half ⟨m,by omega⟩ (by show 1≤m;omega)
            have hh':p2 (15-(m:Int))=16384↔m=1:=hh
            rw[if_pos e3,x3,x4]
            by_cases e4:m=1
            · rw[if_pos (hh'.mpr e4),if_pos ⟨by omega,if_pos (by omega)⟩]
            · rw[if_neg (fun h=>e4 (hh'.mp h)),if_neg (fun h=>by have:=h.2;rw[if_neg (by omega)]at this;omega)]
          · rw[if_neg e3,if_neg (fun h=>e3 (by have:=h.1;omega))]
  · rw[if_neg h,if_neg]
    intro hb
    rw[Bool.and_eq_true,decide_eq_true_eq]at hb
    exact h ⟨by omega,hb.1⟩
def toC (x:S106):S141:=⟨x.f0,x.f1⟩
theorem coin_eq (l:List S141) (h:l.length≤1000000000):impl_coin.f l ()=some (isort S141.f0 l):=by
  have hi:∀ (x:S141) (ys:List S141),SortHand.ins S141.f0 x ys=ins S141.f0 x ys:=fun x ys=>by
    induction ys with
    | nil=>rfl
    | cons y ys ih=>rw[SortHand.ins,ins,ih]
  have hs:∀ ys:List S141,SortHand.isort S141.f0 ys=isort S141.f0 ys:=fun ys=>by
    induction ys with
    | nil=>rfl
    | cons y ys ih=>rw[SortHand.isort,isort,ih,hi]
  unfold impl_coin.f
  rw[if_pos (by omega),hs]
theorem ins_map (x:S106) (ys:List S106):ins S141.f0 (toC x) (ys.map toC)=(ins S106.f0 x ys).map toC:=by
  induction ys with
  | nil=>rfl
  | cons y ys ih =>
    rw[List.map_cons,ins,ins]
    show(if x.f0≤y.f0 then _ else _)=_
    by_cases e:x.f0≤y.f0
    · rw[if_pos e,if_pos e];rfl
    · rw[if_neg e,if_neg e,ih];rfl
theorem isort_map (ys:List S106):isort S141.f0 (ys.map toC)=(isort S106.f0 ys).map toC:=by
  induction ys with
  | nil=>rfl
  | cons y ys ih=>rw[List.map_cons,isort,isort,ih,ins_map]
theorem rd_Coin (xs:List S141) (i:Nat) (h:i<xs.length):rd_T141 xs i=xs[i]:=by simp[rd_T141,List.getD,h]
theorem impl_coinsOf_l0 (xs:List Int) (hx:xs.length≤1000) (hall:xs.all (inB 12000)=true) (d:Nat):∀ (k i:Nat) (acc:List S141),i≤xs.length→xs.length-i=d→acc.length≤i→d<k→impl_coinsOf.l0 k acc xs xs.length i=some (isort S141.f0 (acc++(rawI (xs.drop i) i).map toC)):=by
  induction d with
  | zero =>
    intro k i acc hi hd ha hk
    obtain⟨k,rfl⟩:∃ m,k=m+1:=⟨k-1,by omega⟩
    rw[impl_coinsOf.l0,if_neg (by omega),coin_eq acc (by omega),Option.bind_some,List.drop_eq_nil_of_le (by omega),rawI,List.map_nil,List.append_nil]
  | succ d ih =>
    intro k i acc hi hd ha hk
    obtain⟨k,rfl⟩:∃ m,k=m+1:=⟨k-1,by omega⟩
    have lt:i<xs.length:=by omega
    have h1:=List.all_eq_true.mp hall xs[i] (List.getElem_mem lt)
    simp only[inB,Bool.and_eq_true,decide_eq_true_eq]at h1
    have e3:wrap64 ((i:Int)+1)=((i+1:Nat):Int):=by rw[w64 (by omega) (by omega)];omega
    rw[impl_coinsOf.l0,if_pos (by omega),if_pos (by omega),if_pos (by omega),rd_at xs i lt,List.drop_eq_getElem_cons lt,rawI,e3]
    by_cases e:xs[i]=0
    · rw[if_neg (by omega),if_pos e,ih k (i+1) acc (by omega) (by omega) (by omega) (by omega)]
    · rw[if_pos (by omega),if_pos (by omega),if_neg e,ih k (i+1) _ (by omega) (by omega) (by rw[List.length_append];simp;omega) (by omega),List.append_assoc]
      rfl
theorem impl_coinsOf_eq (xs:List Int) (hx:xs.length≤1000) (hall:xs.all (inB 12000)=true) (k:Nat) (hk:1001≤k):impl_coinsOf.f k xs=some ((isort S106.f0 (rawI xs 0)).map toC):=by
  have:=impl_coinsOf_l0 xs hx hall xs.length k 0 [] (by omega) rfl (by simp) (by omega)
  rw[List.nil_append,List.drop_zero,isort_map]at this
  exact this
theorem impl_nextCoins_l0 (L:List S106) (hL:L.length≤10000) (hw:∀ a∈L,0≤a.f0∧a.f0≤1000000000000∧a.f1.length≤100000) (d:Nat):∀ (k i:Nat) (acc:List S141),i≤L.length→L.length-i≤d→acc.length≤1000000+i→d<k→impl_nextCoins.l0 k (L.map toC) acc i=some (isort S141.f0 (acc++(packI (L.drop i)).map toC)):=by
  induction d with
  | zero =>
    intro k i acc hi hd ha hk
    obtain⟨k,rfl⟩:∃ m,k=m+1:=⟨k-1,by omega⟩
    rw[impl_nextCoins.l0,w64 (by omega) (by omega),List.length_map,if_neg (by omega),coin_eq acc (by omega),Option.bind_some,List.drop_eq_nil_of_le (by omega),packI,List.map_nil,List.append_nil]
    intro a b r h;cases h
  | succ d ih =>
    intro k i acc hi hd ha hk
    obtain⟨k,rfl⟩:∃ m,k=m+1:=⟨k-1,by omega⟩
    rw[impl_nextCoins.l0,w64 (by omega) (by omega),List.length_map]
    by_cases lt:i+1<L.length
    · have lt0:i<L.length:=by omega
      obtain⟨A,hA⟩:∃ A,A=L[i]:=⟨_,rfl⟩
      obtain⟨B,hB⟩:∃ B,B=L[i+1]:=⟨_,rfl⟩
      have e1:rd_T141 (L.map toC) (i:Int)=toC A:=by rw[rd_Coin _ i (by simpa using lt0),List.getElem_map,hA]
      have e2:rd_T141 (L.map toC) ((i:Int)+1)=toC B:=by rw[show(i:Int)+1=((i+1:Nat):Int)by omega,rd_Coin _ (i+1) (by simpa using lt),List.getElem_map,hB]
      have b1:=hw A (by rw[hA];exact List.getElem_mem lt0)
      have b2:=hw B (by rw[hB];exact List.getElem_mem lt)
      have ihh:=ih k (i+2) (acc++[⟨A.f0+B.f0,A.f1++B.f1⟩]) (by omega) (by omega) (by simp only[List.length_append,List.length_singleton];omega) (by omega)
      have g1:(i:Int)+1<(L.length:Int):=by omega
      have g2:0≤(i:Int):=by omega
      have g3:(i:Int)<(L.length:Int):=by omega
      have g4:0≤(i:Int)+1:=by omega
      have g5:acc.length<4398046511104:=by omega
      have g6:A.f1.length+B.f1.length≤1000000000:=by omega
      have e4:packI (L.drop i)=⟨A.f0+B.f0,A.f1++B.f1⟩ :: packI (L.drop (i+2)):=by
        rw[List.drop_eq_getElem_cons lt0,List.drop_eq_getElem_cons lt,packI,hA,hB]
      have e6:slices_Concat_int_int.f (toC A).f1 (toC B).f1=some (A.f1++B.f1):=by
        show slices_Concat_int_int.f A.f1 B.f1=_
        rw[slices_Concat_int_int.f,if_pos g6]
      have e5:wrap64 ((toC A).f0+(toC B).f0)=A.f0+B.f0:=w64 (x:=A.f0+B.f0) (by omega) (by omega)
      have e3:wrap64 ((i:Int)+2)=((i+2:Nat):Int):=(w64 (x:=(i:Int)+2) (by omega) (by omega)).trans (by omega)
      rw[if_pos g1,if_pos g2,if_pos g3,if_pos g4,e1,e2,e6,Option.bind_some,if_pos g5,e3,e5,ihh,e4,List.map_cons,List.append_assoc,List.singleton_append]
      rfl
    · rw[if_neg (by omega),coin_eq acc (by omega),Option.bind_some]
      have:packI (L.drop i)=[]:=by
        by_cases lt0:i<L.length
        · rw[List.drop_eq_getElem_cons lt0,List.drop_eq_nil_of_le (by omega),packI]
          intro a b r h;cases h
        · rw[List.drop_eq_nil_of_le (by omega),packI]
          intro a b r h;cases h
      rw[this,List.map_nil,List.append_nil]
theorem mrg_isort (F P:List S106) (h:Srt S106.f0 F) (g:Srt S106.f0 P):isort S106.f0 (F++P)=mrg S106.f0 F P:=(isort_uniq (mrg_ok _ P F h g).1 (mrg_ok _ P F h g).2).symm
theorem impl_nextCoins_eq (F L:List S106) (hF:F.length≤1000) (hs:Srt S106.f0 F) (hL:L.length≤10000) (hp:Srt S106.f0 (packI L)) (hw:∀ a∈L,0≤a.f0∧a.f0≤1000000000000∧a.f1.length≤100000) (k:Nat) (hk:10001≤k):impl_nextCoins.f k (F.map toC) (L.map toC)=some ((mrg S106.f0 F (packI L)).map toC):=by
  unfold impl_nextCoins.f
  rw[Option.bind_some,if_pos (by simp;omega),List.nil_append]
  have:=impl_nextCoins_l0 L hL hw L.length k 0 (F.map toC) (by omega) (by omega) (by simp;omega) (by omega)
  rw[List.drop_zero,← List.map_append,isort_map,mrg_isort F _ hs hp]at this
  exact this
theorem impl_Lim_l3 (P:List S106) (n:Int) (hL:P.length≤1000000) (i:Nat) (hi:i<P.length) (s:List Int) (hl:s.length≤1000000000) (d:Nat):∀ (k j:Nat) (l:List Int),j≤s.length→s.length-j=d→(∀ q∈s,0≤q∧q<l.length)→
    impl_LimitedLengths.l3 (k+d+1) l (P.map toC) n i s s.length j=impl_LimitedLengths.l2 k (bump l (s.drop j)) (P.map toC) n ((i+1:Nat):Int):=by
  induction d with
  | zero =>
    intro k j l hj hd hs
    simp only[impl_LimitedLengths.l3,Nat.add_zero]
    rw[if_neg (by omega),w64 (by omega) (by omega),List.drop_eq_nil_of_le (by omega)]
    rfl
  | succ d ih =>
    intro k j l hj hd hs
    have lt:j<s.length:=by omega
    obtain⟨K,hK⟩:∃ K,K=k+d+1:=⟨_,rfl⟩
    rw[show k+(d+1)+1=K+1 from by omega]
    simp only[impl_LimitedLengths.l3]
    obtain⟨s1,s2⟩:=hs s[j] (List.getElem_mem lt)
    rw[if_pos (by omega),if_pos (by omega),if_pos (by omega),rd_at _ j lt,if_pos s1,if_pos s2,w64 (x:=(j:Int)+1) (by omega) (by omega),hK]
    have:=ih k (j+1) (l.set s[j].toNat (wrap64 (rd l s[j]+1))) (by omega) (by omega) (fun s h=>by rw[List.length_set];exact hs s h)
    push_cast at this
    rw[this,List.drop_eq_getElem_cons lt]
    rfl
theorem impl_Lim_l2 (P:List S106) (hL:P.length≤1000000) (M:Nat) (hM:M≤1000000000) (hm:∀ a∈P,a.f1.length≤M) (W:Nat) (hs:∀ a∈P,∀ s∈a.f1,0≤s∧s<(W:Int)) (d:Nat):∀ (k i:Nat) (l:List Int),i≤P.length→P.length-i=d→l.length=W→d*(M+2)+1≤k→
    impl_LimitedLengths.l2 k l (P.map toC) P.length i=some (bumps l (P.drop i),true):=by
  induction d with
  | zero =>
    intro k i l hi hd hl hk
    obtain⟨k,rfl⟩:∃ m,k=m+1:=⟨k-1,by omega⟩
    simp only[impl_LimitedLengths.l2]
    rw[if_neg (by omega),List.drop_eq_nil_of_le (by omega)]
    rfl
  | succ d ih =>
    intro k i l hi hd hl hk
    rw[Nat.succ_mul]at hk
    obtain⟨z,hz⟩:∃ z,z=d*(M+2):=⟨_,rfl⟩
    rw[← hz]at hk ih
    clear hz
    have lt:i<P.length:=by omega
    have hlm:=hm P[i] (List.getElem_mem lt)
    have e1:rd_T141 (P.map toC) (i:Int)=toC P[i]:=by rw[rd_Coin _ i (by simpa using lt),List.getElem_map]
    obtain⟨k,rfl⟩:∃ m,k=m+P[i].f1.length+1+1:=⟨k-P[i].f1.length-2,by omega⟩
    obtain⟨K,hK⟩:∃ K,K=k+P[i].f1.length+1:=⟨_,rfl⟩
    rw[← hK]
    simp only[impl_LimitedLengths.l2]
    rw[if_pos (by omega),if_pos (by omega),if_pos (by rw[List.length_map];omega),e1,hK]
    have s:=impl_Lim_l3 P P.length hL i lt P[i].f1 (by omega) P[i].f1.length k 0 l (by omega) (by omega) (fun q hq=>by rw[hl];exact hs _ (List.getElem_mem lt) q hq)
    rw[show((0:Nat):Int)=0 from rfl]at s
    refine Eq.trans s ?_
    rw[List.drop_zero,ih k (i+1) _ (by omega) (by omega) (by rw[bump_len];exact hl) (by omega),List.drop_eq_getElem_cons lt]
    rfl
theorem impl_Lim_l1 (F:List S106) (hF:∀ a∈F,0≤a.f0∧a.f0≤12000∧a.f1.length≤1) (hs:Srt S106.f0 F) (hl:F.length≤288) (n:Int) (l:List Int) (lim:Nat) (hlim:lim≤14) (d:Nat):∀ (k m:Nat),m+d=lim→600000≤k→
    impl_LimitedLengths.l1 (k+d+1) (F.map toC) n l ((listI F m).map toC) lim (m:Int)=impl_LimitedLengths.l1 (k+1) (F.map toC) n l ((listI F lim).map toC) lim (lim:Int):=by
  induction d with
  | zero =>
    intro k m hm hk
    obtain rfl:m=lim:=by omega
    rfl
  | succ d ih =>
    intro k m hm hk
    obtain⟨K,hK⟩:∃ K,K=k+d+1:=⟨_,rfl⟩
    rw[show k+(d+1)+1=K+1 from by omega]
    rw[impl_LimitedLengths.l1]
    obtain⟨b1,b2⟩:=listI_bd F hF m
    have hp:2 ^ m≤2 ^ 15:=Nat.pow_le_pow_right (by decide) (by omega)
    have h15:(2:Nat) ^ 15=32768:=by decide
    rw[h15]at hp
    rw[if_pos (by omega),impl_nextCoins_eq F (listI F m) (by omega) hs (by omega) (packI_srt _ _ (Nat.le_refl _) (listI_srt F hs m)).1 (fun a ha=>by
      have:=b1 a ha
      generalize 2 ^ m=q at this hp
      omega) K (by
      have u:600000≤K:=by rw[hK];exact Nat.le_trans hk (Nat.le_trans (Nat.le_add_right k d) (Nat.le_add_right _ 1))
      exact Nat.le_trans (by decide) u),Option.bind_some,w64 (by omega) (by omega),hK]
    have:=ih k (m+1) (by omega) hk
    rw[listI]at this
    push_cast at this
    exact this
theorem impl_Lim_l0 (xs:List Int) (hx:xs.length≤288) (hall:xs.all (inB 12000)=true) (a:Int) (ha1:1≤a) (ha:a≤15) (d:Nat):∀ (k i:Nat),i≤xs.length→xs.length-i=d→
    impl_LimitedLengths.l0 (k+d+1) xs a xs xs.length i=impl_LimitedLengths.j1 k xs a false:=by
  induction d with
  | zero =>
    intro k i hi hd
    rw[Nat.add_zero,impl_LimitedLengths.l0,if_neg (by omega),if_neg (by omega),impl_within_eq,Option.bind_some,decide_eq_true ha1,decide_eq_true ha]
    rfl
  | succ d ih =>
    intro k i hi hd
    have lt:i<xs.length:=by omega
    have h1:=List.all_eq_true.mp hall xs[i] (List.getElem_mem lt)
    rw[show k+(d+1)+1=(k+d+1)+1 from by omega,impl_LimitedLengths.l0,if_pos (by omega),if_pos (by omega),if_pos (by omega),impl_within_eq,Option.bind_some,rd_at xs i lt,show(decide (0≤xs[i]) && decide (xs[i]≤12000))=true from h1,if_pos rfl,w64 (by omega) (by omega)]
    have:=ih k (i+1) (by omega) (by omega)
    push_cast at this
    exact this
theorem impl_Lim_eq (xs:List Int) (hx:xs.length≤288) (hall:xs.all (inB 12000)=true) (a:Nat) (ha1:1≤a) (ha:a≤15) (hpow:impl_powerOf.f (a:Int)=some ((2 ^ a:Nat):Int)) (hn:posN xs≤2 ^ a) (k:Nat) (hk:20000000≤k):impl_LimitedLengths.f k xs a=some (limL xs a,true):=by
  obtain⟨hF,hFl⟩:=firstI_ok xs hall
  unfold impl_LimitedLengths.f
  obtain⟨k,rfl⟩:∃ m,k=m+xs.length+1:=⟨k-xs.length-1,by omega⟩
  have h0:=impl_Lim_l0 xs hx hall a (by omega) (by omega) xs.length k 0 (by omega) (by omega)
  refine Eq.trans h0 ?_
  obtain⟨k,rfl⟩:∃ m,k=m+1:=⟨k-1,by omega⟩
  rw[impl_LimitedLengths.j1,if_neg (by decide),impl_coinsOf_eq xs (by omega) hall k (by omega),Option.bind_some,hpow,Option.bind_some]
  have hs:=isort_srt S106.f0 (rawI xs 0)
  unfold limL
  generalize hFe:isort S106.f0 (rawI xs 0)=F at hF hFl hs ⊢
  have hFN:((F.map toC).length:Int)=(posN xs:Int):=by rw[List.length_map,hFl]
  rw[hFN,if_neg (by omega),if_pos (by omega),if_pos (by simp;omega),Option.bind_some,Int.toNat_natCast]
  by_cases e1:posN xs=1
  · obtain⟨x,rfl⟩:∃ x,F=[x]:=by
      cases F with
      | nil=>simp at hFl;omega
      | cons x F=>cases F with
        | nil=>exact⟨x,rfl⟩
        | cons y F=>simp at hFl;omega
    obtain⟨_,j,hj,hx1⟩:=hF x (by simp)
    have e2:rd_T106 [x] 0=x:=rfl
    have e2':rd_T141 ([x].map toC) 0=toC x:=rfl
    have e4:(toC x).f1=[(j:Int)]:=hx1
    have e3:rd [(j:Int)] 0=j:=rfl
    rw[if_pos (by omega),if_pos (by omega),e2',e4,e2,hx1,if_pos (by simp),e3,if_pos (by omega),if_pos (by simpa using hj)]
    obtain⟨k,rfl⟩:∃ m,k=m+1:=⟨k-1,by omega⟩
    rw[impl_LimitedLengths.j2,if_pos (by omega),if_pos (by simp)]
  · rw[if_neg (by omega)]
    obtain⟨k,rfl⟩:∃ m,k=m+1:=⟨k-1,by omega⟩
    rw[impl_LimitedLengths.j2,if_neg (show ¬F.length=1 by omega)]
    by_cases e2:posN xs<2
    · rw[if_pos (by omega),if_pos (by omega)]
    · rw[if_neg (by omega),if_neg (by omega)]
      have hFl288:F.length≤288:=by rw[hFl];have:=posN_le xs;omega
      have hF0:∀ x∈F,0≤x.f0∧x.f0≤12000∧x.f1.length≤1:=fun x hx=>(hF x hx).1
      obtain⟨k,rfl⟩:∃ m,k=m+(a-1)+1:=⟨k-a,by omega⟩
      have ew:wrap64 ((a:Int)-1)=((a-1:Nat):Int):=(w64 (x:=(a:Int)-1) (by omega) (by omega)).trans (by omega)
      rw[ew]
      have h1:=impl_Lim_l1 F hF0 hs hFl288 (posN xs:Int) (List.replicate xs.length 0) (a-1) (by omega) (a-1) k 0 (by omega) (by omega)
      clear ew
      rw[show listI F 0=F from rfl]at h1
      refine Eq.trans h1 ?_
      obtain⟨b1,b2⟩:=listI_bd F hF0 (a-1)
      obtain⟨M,hM⟩:∃ M:Nat,M=16384:=⟨_,rfl⟩
      have hp14:2 ^ (a-1)≤M:=by rw[hM];exact Nat.le_trans (Nat.pow_le_pow_right (by decide) (show a-1≤14 by omega)) (by decide)
      have hen:=listI_enough F (a-1) (by rw[show a-1+1=a by omega];omega)
      have hsy:=listI_syms (fun s=>0≤s∧s<(xs.length:Int)) F (fun x hx s hs=>by
        obtain⟨_,j,hj,hx1⟩:=hF x hx
        rw[hx1]at hs
        rw[List.mem_singleton.mp hs]
        omega) (a-1)
      have hbd:=posN_le xs
      have hq:wrap64 (wrap64 (2*(posN xs:Int))-2)=((2*posN xs-2:Nat):Int):=by
        rw[w64 (x:=2*(posN xs:Int)) (by omega) (by omega),w64 (by omega) (by omega)]
        omega
      have hlen:(((listI F (a-1)).take (2*posN xs-2)).length)=2*posN xs-2:=by rw[List.length_take];omega
      have h4:2*posN xs-2≤574:=by omega
      have h2:=impl_Lim_l2 ((listI F (a-1)).take (2*posN xs-2)) (by omega) M (by omega) (fun x hx=>Nat.le_trans (b1 x (List.mem_of_mem_take hx)).2.2 hp14) xs.length (fun x hx s hs=>hsy x (List.mem_of_mem_take hx) s hs) (2*posN xs-2) k 0 (List.replicate xs.length 0) (by omega) (by omega) (by simp) (by
        have h3:(2*posN xs-2)*(M+2)≤574*(M+2):=Nat.mul_le_mul_right (M+2) h4
        generalize (2*posN xs-2)*(M+2)=z at h3 ⊢
        omega)
      rw[impl_LimitedLengths.l1,if_neg (by omega),hq,if_pos (by omega),if_pos (by rw[List.length_map];omega),Option.bind_some,Int.toNat_natCast,← List.map_take,hFl,List.length_map]
      rw[List.drop_zero]at h2
      exact h2
theorem pow15:impl_powerOf.f ((15:Nat):Int)=some ((2 ^ 15:Nat):Int):=by decide +kernel
theorem pow7:impl_powerOf.f ((7:Nat):Int)=some ((2 ^ 7:Nat):Int):=by decide +kernel
theorem upF {α:Type} {F:Nat→Option α} (m:∀ k,LeO (F k) (F (k+1))) {k0:Nat} {r:α} (h:F k0=some r):∀ k,k0≤k→F k=some r:=by
  intro k hk
  obtain⟨d,rfl⟩:∃ d,k=k0+d:=⟨k-k0,by omega⟩
  clear hk
  induction d with
  | zero=>exact h
  | succ d ih=>exact m _ _ ih
def lencT (n:Int):Int×Int×Int:=(impl_LengthCode.f 40 n).getD (0,0,0)
theorem lencT_all:∀ n:Fin 256,impl_LengthCode.f 40 ((n.val:Int)+3)=some (lencT ((n.val:Int)+3))∧257≤(lencT ((n.val:Int)+3)).1∧(lencT ((n.val:Int)+3)).1≤285∧0≤(lencT ((n.val:Int)+3)).2.1∧(lencT ((n.val:Int)+3)).2.1≤13∧0≤(lencT ((n.val:Int)+3)).2.2∧(lencT ((n.val:Int)+3)).2.2≤100000:=by decide +kernel
theorem lencT_ok (n:Int) (h:3≤n∧n≤258):(∀ k,100≤k→impl_LengthCode.f k n=some (lencT n)∧spec_LengthCode.f k n=some (lencT n))∧257≤(lencT n).1∧(lencT n).1≤285∧0≤(lencT n).2.1∧(lencT n).2.1≤13∧0≤(lencT n).2.2∧(lencT n).2.2≤100000:=by
  obtain⟨m,hm⟩:∃ m:Nat,n=(m:Int)+3:=⟨(n-3).toNat,by omega⟩
  have h1:=lencT_all ⟨m,by omega⟩
  have h2:=lencode_at ⟨m,by omega⟩
  simp only[← hm]at h1 h2
  refine⟨fun k hk=>⟨upF (impl_LengthCode.mono n) h1.1 k (by omega),upF (spec_LengthCode.mono n) (h2.symm.trans h1.1) k hk⟩,h1.2⟩
def distB (s:Nat):Int×Int:=(spec_l06DistBits.f 100 (s:Int)).getD (0,0)
theorem distB_all:∀ s:Fin 30,spec_l06DistBits.f 100 (s.val:Int)=some (distB s.val)∧impl_distSpan.f (s.val:Int)=some ((distB s.val).2,(distB s.val).1)∧0≤(distB s.val).1∧(distB s.val).1≤13∧1≤(distB s.val).2∧(distB s.val).2≤100000:=by decide +kernel
theorem distB_ok (s:Nat) (h:s<30):(∀ k,100≤k→spec_l06DistBits.f k (s:Int)=some (distB s))∧impl_distSpan.f (s:Int)=some ((distB s).2,(distB s).1)∧0≤(distB s).1∧(distB s).1≤13∧1≤(distB s).2∧(distB s).2≤100000:=by
  have h1:=distB_all ⟨s,h⟩
  exact⟨fun k hk=>upF (spec_l06DistBits.mono _) h1.1 k hk,h1.2⟩
theorem distB_zero:(distB 0).2=1:=by decide +kernel
def lastD (x:Int):Nat→Nat
  | 0=>0
  | s+1=>if(distB (s+1)).2≤x then s+1 else lastD x s
theorem lastD_le (x:Int) (s:Nat):lastD x s≤s:=by
  induction s with
  | zero=>exact Nat.le_refl _
  | succ s ih=>rw[lastD];split <;> omega
theorem lastD_base (x:Int) (hx:1≤x) (s:Nat):(distB (lastD x s)).2≤x:=by
  induction s with
  | zero=>rw[lastD,distB_zero];exact hx
  | succ s ih=>rw[lastD];split <;> assumption
def distT (x:Int):Int×Int×Int:=(((lastD x 29:Nat):Int),(distB (lastD x 29)).1,x-(distB (lastD x 29)).2)
theorem impl_DistCode_l0 (x:Int) (hx:1≤x∧x≤32768) (s:Nat) (hs:s<30):∀ k,s<k→impl_DistCode.l0 k x s (distB s).2 (distB s).1=some (((lastD x s:Nat):Int),(distB (lastD x s)).1,x-(distB (lastD x s)).2):=by
  induction s with
  | zero =>
    intro k hk
    obtain⟨k,rfl⟩:∃ m,k=m+1:=⟨k-1,by omega⟩
    rw[impl_DistCode.l0,lastD,distB_zero,if_neg (by omega),w64 (by omega) (by omega)]
  | succ s ih =>
    intro k hk
    obtain⟨k,rfl⟩:∃ m,k=m+1:=⟨k-1,by omega⟩
    have hb:=(distB_ok (s+1) hs).2.2
    rw[impl_DistCode.l0,lastD]
    by_cases e:(distB (s+1)).2≤x
    · rw[if_neg (by omega),if_pos e,w64 (by omega) (by omega)]
    · rw[if_pos (by omega),if_neg e,show wrap64 (((s+1:Nat):Int)-1)=(s:Int)by rw[w64 (by omega) (by omega)];omega,(distB_ok s (by omega)).2.1,Option.bind_some]
      exact ih (by omega) k (by omega)
theorem impl_DistCode_eq (x:Int) (hx:1≤x∧x≤32768) (k:Nat) (hk:30≤k):impl_DistCode.f k x=some (distT x):=by
  unfold impl_DistCode.f
  have h1:=(distB_ok 29 (by omega)).2.1
  rw[impl_within_eq,Option.bind_some,decide_eq_true hx.1,decide_eq_true hx.2,Bool.and_true,if_pos rfl,show(29:Int)=((29:Nat):Int)from rfl,h1,Option.bind_some]
  exact impl_DistCode_l0 x hx 29 (by omega) k (by omega)
theorem spec_DistCode_l0 (x:Int) (hx:1≤x∧x≤32768) (d:Nat):∀ (k s:Nat),s+1+d=30→100+d<k→spec_DistCode.l0 k x ((lastD x s:Nat):Int) (distB (lastD x s)).1 (distB (lastD x s)).2 ((s+1:Nat):Int)=some (distT x):=by
  induction d with
  | zero =>
    intro k s hs hk
    obtain⟨k,rfl⟩:∃ m,k=m+1:=⟨k-1,by omega⟩
    obtain rfl:s=29:=by omega
    have hb:=(distB_ok (lastD x 29) (by have:=lastD_le x 29;omega)).2.2
    rw[spec_DistCode.l0,if_neg (by omega),w64 (by omega) (by omega)]
    rfl
  | succ d ih =>
    intro k s hs hk
    obtain⟨k,rfl⟩:∃ m,k=m+1:=⟨k-1,by omega⟩
    have hi:=ih k (s+1) (by omega) (by omega)
    rw[spec_DistCode.l0,if_pos (by omega),(distB_ok (s+1) (by omega)).1 k (by omega),Option.bind_some,show wrap64 (((s+1:Nat):Int)+1)=((s+1+1:Nat):Int)by rw[w64 (by omega) (by omega)];omega]
    rw[lastD]at hi
    by_cases e:(distB (s+1)).2≤x
    · rw[if_pos e]
      rw[if_pos e]at hi
      exact hi
    · rw[if_neg e]
      rw[if_neg e]at hi
      exact hi
theorem spec_DistCode_eq (x:Int) (hx:1≤x∧x≤32768) (k:Nat) (hk:200≤k):spec_DistCode.f k x=some (distT x):=by
  unfold spec_DistCode.f
  obtain⟨k,rfl⟩:∃ m,k=m+1:=⟨k-1,by omega⟩
  have h1:=(distB_ok 0 (by omega)).1 k (by omega)
  rw[show((0:Nat):Int)=0 from rfl]at h1
  rw[spec_l01In_eq,Option.bind_some,decide_eq_true hx.1,decide_eq_true hx.2,Bool.and_true,if_pos rfl,spec_DistCode.l0,if_pos (by omega),h1,Option.bind_some,if_pos (by rw[distB_zero];exact hx.1),w64 (by omega) (by omega)]
  exact spec_DistCode_l0 x hx 29 k 0 (by omega) (by omega)
theorem distT_bd (x:Int) (hx:1≤x∧x≤32768):0≤(distT x).1∧(distT x).1<30∧0≤(distT x).2.1∧(distT x).2.1≤13∧0≤(distT x).2.2∧(distT x).2.2≤32768:=by
  have h1:=lastD_le x 29
  have h2:=(distB_ok (lastD x 29) (by omega)).2.2
  have h3:=lastD_base x hx.1 29
  unfold distT
  refine⟨?_,?_,?_,?_,?_,?_⟩ <;> dsimp only <;> omega
def tokCnt (c:List Int×List Int) (t:S70):List Int×List Int :=
  if t.f1=0 then(c.1.set t.f0.toNat (wrap64 (rd c.1 t.f0+1)),c.2)
  else(c.1.set (lencT t.f1).1.toNat (wrap64 (rd c.1 (lencT t.f1).1+1)),c.2.set (distT t.f2).1.toNat (wrap64 (rd c.2 (distT t.f2).1+1)))
def cntsT (c:List Int×List Int) (ts:List S70):List Int×List Int:=ts.foldl tokCnt c
theorem tokA_lit {t:S70} (h:tokA t=true) (e:t.f1=0):0≤t.f0∧t.f0≤255:=by
  unfold tokA tokB at h
  rw[if_pos e,Bool.and_eq_true]at h
  have h1:=h.1
  simp only[inB,Bool.and_eq_true,decide_eq_true_eq]at h1
  exact h1
theorem tokA_cpy {t:S70} (h:tokA t=true) (e:¬t.f1=0):(3≤t.f1∧t.f1≤258)∧(1≤t.f2∧t.f2≤32768):=by
  unfold tokA tokB at h
  rw[if_neg e]at h
  simp only[Bool.and_eq_true,decide_eq_true_eq]at h
  exact⟨h.1.2,h.2⟩
def tailI (k:Nat) (c:List Int×List Int):Option (List Int×List Int×Bool) :=
  (impl_LimitedLengths.f k c.1 15).bind fun a=>(impl_LimitedLengths.f k c.2 15).bind fun b=>(impl_trimmed.f k a.1 257).bind fun t=>(impl_trimmed.f k b.1 1).bind fun u=>some (t,u,true)
def tailS (k:Nat) (c:List Int×List Int):Option (List Int×List Int×Bool) :=
  (spec_LimitedLengths.f k c.1 15).bind fun a=>(spec_LimitedLengths.f k c.2 15).bind fun b=>(spec_l09Trim.f k a.1 257).bind fun t=>(spec_l09Trim.f k b.1 1).bind fun u=>some (t,u,true)
theorem tokCnt_len (c:List Int×List Int) (t:S70):(tokCnt c t).1.length=c.1.length∧(tokCnt c t).2.length=c.2.length:=by
  unfold tokCnt
  split
  · exact⟨List.length_set ..,rfl⟩
  · exact⟨List.length_set ..,List.length_set ..⟩
theorem impl_Tok_l0 (ts:List S70) (hx:ts.length≤12000) (hall:ts.all tokA=true) (d:Nat):∀ (k i:Nat) (c:List Int×List Int),i≤ts.length→ts.length-i=d→c.1.length=286→c.2.length=30→200≤k→
    impl_TokenLengths.l0 (k+d+1) c.1 c.2 ts ts.length i=tailI k (cntsT c (ts.drop i)):=by
  induction d with
  | zero =>
    intro k i c hi hd h1 h2 hk
    rw[Nat.add_zero,impl_TokenLengths.l0,if_neg (by omega),List.drop_eq_nil_of_le (by omega)]
    rfl
  | succ d ih =>
    intro k i c hi hd h1 h2 hk
    have lt:i<ts.length:=by omega
    have ht:=List.all_eq_true.mp hall ts[i] (List.getElem_mem lt)
    have hl:=tokCnt_len c ts[i]
    have hih:=ih k (i+1) (tokCnt c ts[i]) (by omega) (by omega) (by omega) (by omega) hk
    have hdrop:cntsT c (ts.drop i)=cntsT (tokCnt c ts[i]) (ts.drop (i+1)):=by rw[List.drop_eq_getElem_cons lt];rfl
    rw[hdrop,← hih,show k+(d+1)+1=(k+d+1)+1 by omega]
    clear hih hdrop ih
    rw[impl_TokenLengths.l0,if_pos (by omega),if_pos (by omega),if_pos (by omega),rd_Token ts i lt]
    have ew:wrap64 ((i:Int)+1)=((i+1:Nat):Int):=(w64 (x:=(i:Int)+1) (by omega) (by omega)).trans (by omega)
    rw[ew]
    clear ew
    generalize ts[i]=t at ht ⊢
    unfold tokCnt
    by_cases e:t.f1=0
    · obtain⟨b1,b2⟩:=tokA_lit ht e
      rw[if_pos e,if_pos e,if_pos b1,if_pos (by omega)]
    · obtain⟨b1,b2⟩:=tokA_cpy ht e
      obtain⟨l1,l2,l3,_⟩:=lencT_ok t.f1 b1
      obtain⟨d1,d2,_⟩:=distT_bd t.f2 b2
      rw[if_neg e,if_neg e,(l1 (k+d+1) (by omega)).1,Option.bind_some,impl_DistCode_eq t.f2 b2 (k+d+1) (by omega),Option.bind_some,if_pos (by omega),if_pos (by omega),if_pos d1,if_pos (by omega)]
theorem spec_Tok_l0 (ts:List S70) (hx:ts.length≤12000) (hall:ts.all tokA=true) (d:Nat):∀ (k i:Nat) (c:List Int×List Int),i≤ts.length→ts.length-i=d→c.1.length=286→c.2.length=30→200≤k→
    spec_TokenLengths.l0 (k+d+1) ts c.1 c.2 i=tailS k (cntsT c (ts.drop i)):=by
  induction d with
  | zero =>
    intro k i c hi hd h1 h2 hk
    rw[Nat.add_zero,spec_TokenLengths.l0,if_neg (by omega),List.drop_eq_nil_of_le (by omega)]
    rfl
  | succ d ih =>
    intro k i c hi hd h1 h2 hk
    have lt:i<ts.length:=by omega
    have ht:=List.all_eq_true.mp hall ts[i] (List.getElem_mem lt)
    have hl:=tokCnt_len c ts[i]
    have hih:=ih k (i+1) (tokCnt c ts[i]) (by omega) (by omega) (by omega) (by omega) hk
    have hdrop:cntsT c (ts.drop i)=cntsT (tokCnt c ts[i]) (ts.drop (i+1)):=by rw[List.drop_eq_getElem_cons lt];rfl
    rw[hdrop,← hih,show k+(d+1)+1=(k+d+1)+1 by omega]
    clear hih hdrop ih
    rw[spec_TokenLengths.l0,if_pos (by omega),if_pos (by omega),rd_Token ts i lt]
    have ew:wrap64 ((i:Int)+1)=((i+1:Nat):Int):=(w64 (x:=(i:Int)+1) (by omega) (by omega)).trans (by omega)
    rw[ew]
    clear ew
    generalize ts[i]=t at ht ⊢
    unfold tokCnt
    by_cases e:t.f1=0
    · obtain⟨b1,b2⟩:=tokA_lit ht e
      rw[if_pos e,if_pos e,if_pos b1,if_pos (by omega)]
    · obtain⟨b1,b2⟩:=tokA_cpy ht e
      obtain⟨l1,l2,l3,_⟩:=lencT_ok t.f1 b1
      obtain⟨d1,d2,_⟩:=distT_bd t.f2 b2
      rw[if_neg e,if_neg e,(l1 (k+d+1) (by omega)).2,Option.bind_some,spec_DistCode_eq t.f2 b2 (k+d+1) (by omega),Option.bind_some,if_pos (by omega),if_pos (by omega),if_pos d1,if_pos (by omega)]
def sym1 (t:S70):Int:=if t.f1=0 then t.f0 else(lencT t.f1).1
def sym2 (ts:List S70):List Int:=(ts.filter fun t=>decide (¬t.f1=0)).map fun t=>(distT t.f2).1
theorem cntsT_eq (ts:List S70):∀ c:List Int×List Int,cntsT c ts=(bump c.1 (ts.map sym1),bump c.2 (sym2 ts)):=by
  induction ts with
  | nil=>intro c;rfl
  | cons t ts ih =>
    intro c
    show cntsT (tokCnt c t) ts=_
    rw[ih]
    unfold tokCnt sym2
    by_cases e:t.f1=0
    · rw[if_pos e,List.filter_cons_of_neg (by simp[e]),List.map_cons,show sym1 t=t.f0 by unfold sym1;rw[if_pos e]]
      rfl
    · rw[if_neg e,List.filter_cons_of_pos (by simp[e]),List.map_cons,List.map_cons,show sym1 t=(lencT t.f1).1 by unfold sym1;rw[if_neg e]]
      rfl
theorem sym1_bd (t:S70) (h:tokA t=true):0≤sym1 t∧sym1 t<286∧sym1 t≠256:=by
  unfold sym1
  by_cases e:t.f1=0
  · have:=tokA_lit h e
    rw[if_pos e]
    omega
  · have:=lencT_ok t.f1 (tokA_cpy h e).1
    rw[if_neg e]
    omega
theorem sym2_bd (ts:List S70) (h:ts.all tokA=true) (s:Int) (hs:s∈sym2 ts):0≤s∧s<30:=by
  obtain⟨t,ht,rfl⟩:=List.mem_map.mp hs
  obtain⟨h1,h2⟩:=List.mem_filter.mp ht
  have:=distT_bd t.f2 (tokA_cpy (List.all_eq_true.mp h t h1) (of_decide_eq_true h2)).2
  omega
def zero5:List Int:=(List.replicate 286 0).set 256 1
theorem zero5_rd (j:Nat) (h:j<286):rd zero5 j=if j=256 then 1 else 0:=by
  unfold rd zero5
  rw[Int.toNat_natCast,List.getD_eq_getElem?_getD]
  by_cases e:j=256
  · subst e
    rw[List.getElem?_set_self (by rw[List.length_replicate];omega)]
    rfl
  · rw[List.getElem?_set_ne (Ne.symm e),if_neg e,List.getElem?_replicate,if_pos h]
    rfl
def cnt5 (ts:List S70):List Int:=bump zero5 (ts.map sym1)
def cnt6 (ts:List S70):List Int:=bump (List.replicate 30 0) (sym2 ts)
theorem cnt5_rd (ts:List S70) (hx:ts.length≤12000) (h:ts.all tokA=true) (j:Nat) (hj:j<286):rd (cnt5 ts) j=(if j=256 then 1 else 0)+(((ts.map sym1).count (j:Int):Nat):Int)∧(cnt5 ts).length=286:=by
  have hc:=List.count_le_length (a:=(j:Int)) (l:=ts.map sym1)
  rw[List.length_map]at hc
  have hz:=zero5_rd j hj
  have hz0:0≤rd zero5 j∧rd zero5 j≤1:=by rw[hz];split <;> omega
  have:=bump_at (ts.map sym1) zero5 j (fun q hq=>by
    obtain⟨t,ht,rfl⟩:=List.mem_map.mp hq
    have:=sym1_bd t (List.all_eq_true.mp h t ht)
    have hl:zero5.length=286:=by unfold zero5;rw[List.length_set,List.length_replicate]
    omega) (by unfold zero5;rw[List.length_set,List.length_replicate];exact hj) hz0.1 (by omega)
  unfold cnt5
  rw[this.1,this.2,hz]
  exact⟨rfl,by unfold zero5;rw[List.length_set,List.length_replicate]⟩
theorem cnt6_rd (ts:List S70) (hx:ts.length≤12000) (h:ts.all tokA=true) (j:Nat) (hj:j<30):rd (cnt6 ts) j=(((sym2 ts).count (j:Int):Nat):Int)∧(cnt6 ts).length=30:=by
  have hc:=List.count_le_length (a:=(j:Int)) (l:=sym2 ts)
  have hl2:(sym2 ts).length≤ts.length:=by unfold sym2;rw[List.length_map];exact List.length_filter_le _ _
  have hz:rd (List.replicate 30 (0:Int)) (j:Int)=0:=by
    unfold rd
    rw[Int.toNat_natCast,List.getD_eq_getElem?_getD,List.getElem?_replicate,if_pos hj]
    rfl
  have:=bump_at (sym2 ts) (List.replicate 30 0) j (fun q hq=>by
    have:=sym2_bd ts h q hq
    rw[List.length_replicate]
    omega) (by rw[List.length_replicate];exact hj) (by omega) (by omega)
  unfold cnt6
  rw[this.1,this.2,hz,List.length_replicate]
  exact⟨by omega,rfl⟩
theorem all_rd (xs:List Int) (m:Int) (h:∀ j:Nat,j<xs.length→0≤rd xs j∧rd xs j≤m):xs.all (inB m)=true:=by
  rw[List.all_eq_true]
  intro x hx
  obtain⟨j,hj,rfl⟩:=List.getElem_of_mem hx
  have:=h j hj
  rw[rd_at xs j hj]at this
  simp only[inB,Bool.and_eq_true,decide_eq_true_eq]
  exact this
theorem cnt5_ok (ts:List S70) (hx:ts.length≤12000) (h:ts.all tokA=true):(cnt5 ts).length=286∧(cnt5 ts).all (inB 12000)=true∧rd (cnt5 ts) 256≠0∧∀ t∈ts,rd (cnt5 ts) (sym1 t)≠0:=by
  have hl:=(cnt5_rd ts hx h 0 (by omega)).2
  refine⟨hl,all_rd _ _ (fun j hj=>?_),?_,fun t ht=>?_⟩
  · rw[hl]at hj
    have h1:=(cnt5_rd ts hx h j hj).1
    have hc:=List.count_le_length (a:=(j:Int)) (l:=ts.map sym1)
    rw[List.length_map]at hc
    by_cases e:j=256
    · subst e
      have h0:(ts.map sym1).count ((256:Nat):Int)=0:=List.count_eq_zero.mpr (fun hm=>by
        obtain⟨t,ht,e⟩:=List.mem_map.mp hm
        have:=sym1_bd t (List.all_eq_true.mp h t ht)
        omega)
      rw[h0,if_pos rfl]at h1
      omega
    · rw[if_neg e]at h1
      omega
  · have h1:=(cnt5_rd ts hx h 256 (by omega)).1
    rw[if_pos rfl]at h1
    rw[show(256:Int)=((256:Nat):Int)from rfl,h1]
    omega
  · have hb:=sym1_bd t (List.all_eq_true.mp h t ht)
    obtain⟨j,hj⟩:=Int.eq_ofNat_of_zero_le hb.1
    have h1:=(cnt5_rd ts hx h j (by omega)).1
    have h2:0<(ts.map sym1).count (j:Int):=List.count_pos_iff.mpr (List.mem_map.mpr ⟨t,ht,hj⟩)
    rw[hj,h1]
    split <;> omega
theorem cnt6_ok (ts:List S70) (hx:ts.length≤12000) (h:ts.all tokA=true):(cnt6 ts).length=30∧(cnt6 ts).all (inB 12000)=true∧∀ t∈ts,¬t.f1=0→rd (cnt6 ts) (distT t.f2).1≠0:=by
  have hl:=(cnt6_rd ts hx h 0 (by omega)).2
  refine⟨hl,all_rd _ _ (fun j hj=>?_),fun t ht e=>?_⟩
  · rw[hl]at hj
    have h1:=(cnt6_rd ts hx h j hj).1
    have hc:=List.count_le_length (a:=(j:Int)) (l:=sym2 ts)
    have hl2:(sym2 ts).length≤ts.length:=by unfold sym2;rw[List.length_map];exact List.length_filter_le _ _
    omega
  · have hm:(distT t.f2).1∈sym2 ts:=List.mem_map.mpr ⟨t,List.mem_filter.mpr ⟨ht,decide_eq_true e⟩,rfl⟩
    have hb:=sym2_bd ts h _ hm
    obtain⟨j,hj⟩:=Int.eq_ofNat_of_zero_le hb.1
    have h1:=(cnt6_rd ts hx h j (by omega)).1
    rw[hj]at hm
    have h2:0<(sym2 ts).count (j:Int):=List.count_pos_iff.mpr hm
    rw[hj,h1]
    omega
theorem tail_eq (ts:List S70) (hx:ts.length≤12000) (h:ts.all tokA=true) (k:Nat) (hk:20000000≤k):tailI k (cntsT (zero5,List.replicate 30 0) ts)=tailS k (cntsT (zero5,List.replicate 30 0) ts)∧tailS k (cntsT (zero5,List.replicate 30 0) ts)=(spec_l09Trim.f k (limL (cnt5 ts) 15) 257).bind fun t=>(spec_l09Trim.f k (limL (cnt6 ts) 15) 1).bind fun u=>some (t,u,true):=by
  obtain⟨a1,a2,_⟩:=cnt5_ok ts hx h
  obtain⟨b1,b2,_⟩:=cnt6_ok ts hx h
  have e5:(cntsT (zero5,List.replicate 30 0) ts).1=cnt5 ts:=by rw[cntsT_eq];rfl
  have e6:(cntsT (zero5,List.replicate 30 0) ts).2=cnt6 ts:=by rw[cntsT_eq];rfl
  have p5:posN (cnt5 ts)≤2 ^ 15:=Nat.le_trans (posN_le _) (by rw[a1];decide)
  have p6:posN (cnt6 ts)≤2 ^ 15:=Nat.le_trans (posN_le _) (by rw[b1];decide)
  have i5:=impl_Lim_eq (cnt5 ts) (by omega) a2 15 (by omega) (by omega) pow15 p5 k hk
  have i6:=impl_Lim_eq (cnt6 ts) (by omega) b2 15 (by omega) (by omega) pow15 p6 k hk
  have s5:=spec_Lim_eq (cnt5 ts) (by omega) a2 15 (by omega) (by omega) p5 k hk
  have s6:=spec_Lim_eq (cnt6 ts) (by omega) b2 15 (by omega) (by omega) p6 k hk
  rw[show((15:Nat):Int)=15 from rfl]at i5 i6 s5 s6
  unfold tailI tailS
  rw[e5,e6,i5,i6,s5,s6]
  simp only[Option.bind_some,trim_eq]
  refine⟨?_,?_⟩ <;> first|trivial|rfl
def trimN (xs:List Int) (m:Nat):Nat→Nat
  | 0=>0
  | i+1=>if m<i+1∧rd xs i=0 then trimN xs m i else i+1
def trimL (xs:List Int) (m:Nat):List Int:=xs.take (trimN xs m xs.length)
theorem trimN_le (xs:List Int) (m i:Nat):trimN xs m i≤i∧(m≤i→m≤trimN xs m i)∧∀ j,trimN xs m i≤j→j<i→rd xs j=0:=by
  induction i with
  | zero=>exact⟨Nat.le_refl _,fun h=>by omega,fun j _ h=>by omega⟩
  | succ i ih =>
    rw[trimN]
    by_cases e:m<i+1∧rd xs i=0
    · rw[if_pos e]
      refine⟨by omega,fun h=>ih.2.1 (by omega),fun j h1 h2=>?_⟩
      by_cases ej:j=i
      · rw[ej];exact e.2
      · exact ih.2.2 j h1 (by omega)
    · rw[if_neg e]
      exact⟨Nat.le_refl _,fun h=>h,fun j h1 h2=>by omega⟩
theorem spec_Trim_l0 (xs:List Int) (hx:xs.length≤1000) (m:Nat) (i:Nat):∀ k,i≤xs.length→i<k→spec_l09Trim.l0 k xs m i=some (xs.take (trimN xs m i)):=by
  induction i with
  | zero =>
    intro k hi hk
    obtain⟨k,rfl⟩:∃ n,k=n+1:=⟨k-1,by omega⟩
    rw[spec_l09Trim.l0,if_neg (by omega),if_pos (by omega),if_pos (by omega)]
    rfl
  | succ i ih =>
    intro k hi hk
    obtain⟨k,rfl⟩:∃ n,k=n+1:=⟨k-1,by omega⟩
    have ew:wrap64 (((i+1:Nat):Int)-1)=(i:Int):=(w64 (x:=((i+1:Nat):Int)-1) (by omega) (by omega)).trans (by omega)
    rw[spec_l09Trim.l0,ew,trimN]
    clear ew
    by_cases e1:m<i+1
    · rw[if_pos (by omega),if_pos (by omega),if_pos (by omega)]
      by_cases e2:rd xs i=0
      · rw[if_pos e2,if_pos ⟨e1,e2⟩]
        exact ih k (by omega) (by omega)
      · rw[if_neg e2,if_neg (show ¬(m<i+1∧rd xs (i:Nat)=0)from fun h=>e2 h.2),if_pos (by omega),if_pos (by omega),Int.toNat_natCast]
    · rw[if_neg (show ¬(((i+1:Nat):Int)>(m:Int))by omega),if_neg (show ¬(m<i+1∧rd xs (i:Nat)=0)from fun h=>e1 h.1),if_pos (by omega),if_pos (by omega),Int.toNat_natCast]
theorem spec_Trim_eq (xs:List Int) (hx:xs.length≤1000) (m:Nat) (k:Nat) (hk:1001≤k):spec_l09Trim.f k xs m=some (trimL xs m):=spec_Trim_l0 xs hx m xs.length k (Nat.le_refl _) (by omega)
theorem bumps_len' (xs:List S106) (l:List Int):(bumps l xs).length=l.length:=bumps_len xs l
theorem limL_len (xs:List Int) (a:Nat):(limL xs a).length=xs.length:=by
  unfold limL
  split
  · rw[List.length_set,List.length_replicate]
  · split
    · rw[List.length_replicate]
    · rw[bumps_len',List.length_replicate]
def toksOk (ts:List S70):Bool:=ts.all tokA && decide ((ts.length:Int)≤12000)
def toklV (ts:List S70):List Int×List Int×Bool:=if toksOk ts=true then(trimL (limL (cnt5 ts) 15) 257,trimL (limL (cnt6 ts) 15) 1,true)else([],[],false)
theorem toksOk_iff (ts:List S70) (h:toksOk ts=true):ts.all tokA=true∧ts.length≤12000:=by
  unfold toksOk at h
  rw[Bool.and_eq_true,decide_eq_true_eq]at h
  exact⟨h.1,by omega⟩
theorem tailV (ts:List S70) (h:toksOk ts=true) (k:Nat) (hk:20000000≤k):tailI k (cntsT (zero5,List.replicate 30 0) ts)=some (toklV ts)∧tailS k (cntsT (zero5,List.replicate 30 0) ts)=some (toklV ts):=by
  obtain⟨h1,h2⟩:=toksOk_iff ts h
  obtain⟨e1,e2⟩:=tail_eq ts h2 h1 k hk
  have l5:(limL (cnt5 ts) 15).length=286:=by rw[limL_len];exact(cnt5_ok ts h2 h1).1
  have l6:(limL (cnt6 ts) 15).length=30:=by rw[limL_len];exact(cnt6_ok ts h2 h1).1
  have t5:=spec_Trim_eq (limL (cnt5 ts) 15) (by omega) 257 k (by omega)
  have t6:=spec_Trim_eq (limL (cnt6 ts) 15) (by omega) 1 k (by omega)
  rw[show((257:Nat):Int)=257 from rfl]at t5
  rw[show((1:Nat):Int)=1 from rfl]at t6
  rw[e1,e2,t5,Option.bind_some,t6,Option.bind_some,toklV,if_pos h]
  exact⟨rfl,rfl⟩
theorem impl_TokenLengths_eq (ts:List S70) (hx:ts.length≤10000000) (k:Nat) (hk:40000000≤k):impl_TokenLengths.f k ts=some (toklV ts):=by
  unfold impl_TokenLengths.f
  rw[impl_tokensOk_eq ts (by omega) k (by omega),Option.bind_some,show(ts.all tokA && decide ((ts.length:Int)≤12000))=toksOk ts from rfl]
  by_cases h:toksOk ts=true
  · obtain⟨h1,h2⟩:=toksOk_iff ts h
    rw[if_pos h,if_pos (by omega),Option.bind_some,if_pos (by omega),if_pos (by rw[List.length_replicate];omega)]
    obtain⟨k,rfl⟩:∃ m,k=m+ts.length+1:=⟨k-ts.length-1,by omega⟩
    have:=impl_Tok_l0 ts h2 h1 ts.length k 0 (zero5,List.replicate 30 0) (by omega) rfl (by unfold zero5;rw[List.length_set,List.length_replicate]) (by rw[List.length_replicate]) (by omega)
    rw[List.drop_zero,(tailV ts h k (by omega)).1]at this
    exact this
  · rw[if_neg h,toklV,if_neg h]
theorem spec_TokenLengths_eq (ts:List S70) (hx:ts.length≤10000000) (k:Nat) (hk:40000000≤k):spec_TokenLengths.f k ts=some (toklV ts):=by
  unfold spec_TokenLengths.f
  rw[spec_tokensOk_eq ts (by omega) k (by omega),Option.bind_some,show(ts.all tokA && decide ((ts.length:Int)≤12000))=toksOk ts from rfl]
  by_cases h:toksOk ts=true
  · obtain⟨h1,h2⟩:=toksOk_iff ts h
    rw[if_pos h,if_pos (by omega),Option.bind_some,if_pos (by omega),if_pos (by rw[List.length_replicate];omega)]
    obtain⟨k,rfl⟩:∃ m,k=m+ts.length+1:=⟨k-ts.length-1,by omega⟩
    have:=spec_Tok_l0 ts h2 h1 ts.length k 0 (zero5,List.replicate 30 0) (by omega) rfl (by unfold zero5;rw[List.length_set,List.length_replicate]) (by rw[List.length_replicate]) (by omega)
    rw[List.drop_zero,(tailV ts h k (by omega)).2]at this
    exact this
  · rw[if_neg h,toklV,if_neg h]
theorem roomL_app (xs ys:List Int):roomL (xs++ys)=roomL xs+roomL ys:=by
  induction xs with
  | nil=>rw[List.nil_append,roomL];omega
  | cons x xs ih=>rw[List.cons_append,roomL,roomL,ih];omega
theorem posN_app (xs ys:List Int):posN (xs++ys)=posN xs+posN ys:=by
  unfold posN
  rw[List.filter_append,List.length_append]
theorem zeros_room (ys:List Int) (h:∀ y∈ys,y=0):roomL ys=0∧posN ys=0:=by
  induction ys with
  | nil=>exact⟨rfl,rfl⟩
  | cons y ys ih =>
    obtain⟨i1,i2⟩:=ih (fun q hq=>h q (List.mem_cons_of_mem _ hq))
    have h0:=h y (List.mem_cons_self ..)
    rw[roomL,posN_cons,if_neg (by omega),if_neg (by omega),i1,i2]
    exact⟨by omega,rfl⟩
theorem kindL_take (r:List Int) (n:Nat) (hl:r.length≤288) (hz:∀ j:Nat,n≤j→j<r.length→rd r j=0) (hall:r.all (inB 15)=true):kindL (r.take n)=kindL r∧(r.take n).all (inB 15)=true:=by
  have h1:=zeros_room (r.drop n) (fun y hy=>by
    obtain⟨i,hi,rfl⟩:=List.getElem_of_mem hy
    rw[List.length_drop]at hi
    rw[List.getElem_drop,← rd_at r (n+i) (by omega)]
    exact hz (n+i) (by omega) (by omega))
  have h2:roomL r=roomL (r.take n):=by
    conv=>lhs;rw[← List.take_append_drop n r]
    rw[roomL_app,h1.1];omega
  have h3:posN r=posN (r.take n):=by
    conv=>lhs;rw[← List.take_append_drop n r]
    rw[posN_app,h1.2];omega
  have h4:(r.take n).all (inB 15)=true:=List.all_eq_true.mpr (fun x hx=>List.all_eq_true.mp hall x (List.mem_of_mem_take hx))
  refine⟨?_,h4⟩
  unfold kindL
  rw[if_pos ⟨by rw[List.length_take];omega,h4⟩,if_pos ⟨by omega,hall⟩,h2,h3]
theorem rawI_has (cs:List Int):∀ (k i:Nat),i<cs.length→rd cs i≠0→∃ x∈rawI cs k,x.f1=[((k+i:Nat):Int)]:=by
  induction cs with
  | nil=>intro k i h;cases h
  | cons c cs ih =>
    intro k i hi hn
    rw[rawI]
    cases i with
    | zero =>
      have hc:¬c=0:=hn
      rw[if_neg hc]
      exact⟨_,List.mem_cons_self ..,rfl⟩
    | succ i =>
      obtain⟨x,hx,he⟩:=ih (k+1) i (by rw[List.length_cons]at hi;omega) hn
      rw[show k+1+i=k+(i+1)by omega]at he
      by_cases hc:c=0
      · rw[if_pos hc];exact⟨x,hx,he⟩
      · rw[if_neg hc];exact⟨x,List.mem_cons_of_mem _ hx,he⟩
theorem rep_all (n:Nat):∀ y∈List.replicate n (0:Int),y=0:=fun y hy=>List.eq_of_mem_replicate hy
theorem one_room (n:Nat):∀ j,j<n→roomL ((List.replicate n 0).set j 1)=16384∧posN ((List.replicate n 0).set j 1)=1:=by
  induction n with
  | zero=>intro j h;cases h
  | succ n ih =>
    intro j h
    rw[List.replicate_succ]
    cases j with
    | zero =>
      have:=zeros_room (List.replicate n 0) (rep_all n)
      rw[List.set_cons_zero,roomL,posN_cons,if_pos (by omega),if_pos (by omega),this.1,this.2]
      exact⟨by decide,rfl⟩
    | succ j =>
      have:=ih j (by omega)
      rw[List.set_cons_succ,roomL,posN_cons,if_neg (by omega),if_neg (by omega),this.1,this.2]
      exact⟨rfl,rfl⟩
theorem rd_rep (n j:Nat):rd (List.replicate n 0) (j:Int)=0:=by
  unfold rd
  rw[Int.toNat_natCast,List.getD_eq_getElem?_getD,List.getElem?_replicate]
  split <;> rfl
theorem limL_good (cs:List Int) (hx:cs.length≤288) (hall:cs.all (inB 12000)=true) (a:Nat) (ha1:1≤a) (ha:a≤15) (hn:posN cs≤2 ^ a) :
    (limL cs a).all (inB 15)=true∧(∀ j:Nat,j<cs.length→(rd cs j=0↔rd (limL cs a) j=0))∧kindL (limL cs a)=(if posN cs=0 then 1 else if posN cs=1 then 3 else 2)∧(∀ j:Nat,j<cs.length→rd (limL cs a) j≤a):=by
  obtain⟨hF,hFl⟩:=firstI_ok cs hall
  have hlen:=limL_len cs a
  have key:(∀ j:Nat,j<cs.length→(rd cs j=0↔rd (limL cs a) j=0))∧(∀ j:Nat,j<cs.length→0≤rd (limL cs a) j∧rd (limL cs a) j≤a)∧((posN cs=0∧roomL (limL cs a)=0∧posN (limL cs a)=0)∨(posN cs=1∧roomL (limL cs a)=16384∧posN (limL cs a)=1)∨(2≤posN cs∧roomL (limL cs a)=32768)):=by
    unfold limL
    by_cases e1:posN cs=1
    · rw[if_pos (by omega)]
      obtain⟨x,hxF⟩:∃ x,isort S106.f0 (rawI cs 0)=[x]:=by
        generalize isort S106.f0 (rawI cs 0)=F at hFl
        cases F with
        | nil=>simp at hFl;omega
        | cons x F=>cases F with
          | nil=>exact⟨x,rfl⟩
          | cons y F=>simp at hFl;omega
      have hmem:x∈rawI cs 0:=(isort_perm _ _).subset (by rw[hxF];exact List.mem_cons_self ..)
      obtain⟨j,j1,hj2,j3⟩:=rawI_mem cs 0 x hmem
      have hx1:x.f1=[(j:Int)]:=by rw[hj2];simp
      have e2:rd_T106 [x] 0=x:=rfl
      have e3:rd [(j:Int)] 0=j:=rfl
      rw[hxF,e2,hx1,e3,Int.toNat_natCast]
      have hrd:∀ i:Nat,rd ((List.replicate cs.length 0).set j 1) (i:Int)=if i=j then 1 else 0:=fun i=>by
        have:rd ((List.replicate cs.length 0).set j 1) (i:Int)=if i=j then 1 else rd (List.replicate cs.length 0) (i:Int):=by
          unfold rd
          simp only[Int.toNat_natCast,List.getD_eq_getElem?_getD]
          by_cases e:i=j
          · subst e
            rw[if_pos rfl,List.getElem?_set_self (by rw[List.length_replicate];exact j1)]
            rfl
          · rw[if_neg e,List.getElem?_set_ne (Ne.symm e)]
        rw[this,rd_rep]
      refine⟨fun i hi=>?_,fun i hi=>?_,Or.inr (Or.inl ⟨e1,one_room _ j j1⟩)⟩
      · rw[hrd]
        by_cases e:i=j
        · rw[if_pos e,e]
          exact⟨fun h=>absurd h j3,fun h=>by omega⟩
        · rw[if_neg e]
          refine⟨fun _=>rfl,fun _=>?_⟩
          by_cases h0:rd cs i=0
          · exact h0
          · exfalso
            obtain⟨y,hy,hy1⟩:=rawI_has cs 0 i hi h0
            have hyF:=(isort_perm S106.f0 (rawI cs 0)).symm.subset hy
            rw[hxF,List.mem_singleton]at hyF
            rw[hyF,hx1]at hy1
            injection hy1 with hy1 _
            omega
      · rw[hrd]
        split <;> omega
    · rw[if_neg (by omega)]
      by_cases e2:posN cs<2
      · rw[if_pos (by omega)]
        refine⟨fun i hi=>?_,fun i hi=>by rw[rd_rep];omega,Or.inl ⟨by omega,zeros_room _ (rep_all _)⟩⟩
        rw[rd_rep]
        refine⟨fun _=>rfl,fun _=>?_⟩
        by_cases h0:rd cs i=0
        · exact h0
        · exfalso
          obtain⟨y,hy,_⟩:=rawI_has cs 0 i hi h0
          have hyF:=(isort_perm S106.f0 (rawI cs 0)).symm.subset hy
          have:(isort S106.f0 (rawI cs 0))=[]:=List.length_eq_zero_iff.mp (by omega)
          rw[this]at hyF
          cases hyF
      · rw[if_neg (by omega)]
        obtain⟨k1,k2,k3⟩:=lens_ok cs (fun c hc=>by
          have:=List.all_eq_true.mp hall c hc
          simp only[inB,Bool.and_eq_true,decide_eq_true_eq]at this
          exact this.1) (a-1) (by omega) _ rfl (by omega) (by rw[show a-1+1=a by omega];omega) _ rfl
        refine⟨fun i hi=>⟨(k3 i hi).1,fun h=>?_⟩,fun i hi=>?_,Or.inr (Or.inr ⟨by omega,k2⟩)⟩
        · by_cases h0:rd cs i=0
          · exact h0
          · have:=(k3 i hi).2 h0
            omega
        · by_cases h0:rd cs i=0
          · have:=(k3 i hi).1 h0
            omega
          · have:=(k3 i hi).2 h0
            omega
  obtain⟨g1,g2,g3⟩:=key
  have hall15:(limL cs a).all (inB 15)=true:=all_rd _ _ (fun j hj=>by have:=g2 j (by omega);omega)
  refine⟨hall15,g1,?_,fun j hj=>(g2 j hj).2⟩
  unfold kindL
  rw[if_pos ⟨by omega,hall15⟩]
  rcases g3 with ⟨p0,p1,p2⟩|⟨p0,p1,p2⟩|⟨p0,p1⟩
  · rw[p2,if_pos p0];rfl
  · rw[p1,p2,if_neg (by omega),if_pos p0];rfl
  · have:=room_zero (limL cs a) hall15
    have hpos:¬posN (limL cs a)=0:=fun h=>by have:=this.1 h;omega
    rw[p1,if_neg (by omega),if_neg (by omega)]
    unfold kindN
    rw[if_neg hpos,if_pos rfl]
theorem giveB_len (ys:List Int):∀ fs:List Int,(giveB ys fs).length=ys.length:=by
  induction ys with
  | nil=>intro fs;rfl
  | cons y ys ih=>intro fs;rw[giveB];split <;> rw[List.length_cons,ih,List.length_cons]
theorem rd_set' (fs:List Int) (n j:Nat) (x:Int) (h:n<fs.length):rd (fs.set n x) (j:Int)=if j=n then x else rd fs (j:Int):=by
  unfold rd
  simp only[Int.toNat_natCast,List.getD_eq_getElem?_getD]
  by_cases e:j=n
  · subst e
    rw[if_pos rfl,List.getElem?_set_self h]
    rfl
  · rw[if_neg e,List.getElem?_set_ne (Ne.symm e)]
theorem rd_cons0 (x:Int) (xs:List Int):rd (x :: xs) ((0:Nat):Int)=x:=rfl
theorem rd_consS (x:Int) (xs:List Int) (i:Nat):rd (x :: xs) ((i+1:Nat):Int)=rd xs (i:Int):=by
  unfold rd
  rw[Int.toNat_natCast,Int.toNat_natCast]
  rfl
theorem giveB_at (ys:List Int):∀ (fs:List Int) (i:Nat),fs.length=16→ys.all (inB 15)=true→i<ys.length→rd (giveB ys fs) i=if 0<rd ys i then rd fs (rd ys i)+(((ys.take i).count (rd ys i):Nat):Int)else 0:=by
  induction ys with
  | nil=>intro fs i _ _ h;cases h
  | cons y ys ih =>
    intro fs i hf h hi
    rw[List.all_cons,Bool.and_eq_true]at h
    have hb:=h.1
    simp only[inB,Bool.and_eq_true,decide_eq_true_eq]at hb
    obtain⟨n,rfl⟩:=Int.eq_ofNat_of_zero_le hb.1
    cases i with
    | zero =>
      rw[giveB,rd_cons0,List.take_zero,List.count_nil]
      split
      · rw[rd_cons0];omega
      · rw[rd_cons0]
    | succ i =>
      have hi':i<ys.length:=by rw[List.length_cons]at hi;omega
      have hall:=List.all_eq_true.mp h.2 (ys[i]) (List.getElem_mem hi')
      simp only[inB,Bool.and_eq_true,decide_eq_true_eq]at hall
      rw[giveB,rd_consS,List.take_succ_cons,List.count_cons]
      by_cases e:0<(n:Int)
      · rw[if_pos e,rd_consS,ih _ i (by rw[List.length_set];exact hf) h.2 hi']
        by_cases e2:0<rd ys i
        · rw[if_pos e2,if_pos e2]
          rw[rd_at ys i hi']at e2 ⊢
          obtain⟨q,hq⟩:=Int.eq_ofNat_of_zero_le hall.1
          rw[hq,Int.toNat_natCast,rd_set' fs n q _ (by omega)]
          by_cases e3:q=n
          · subst e3
            rw[if_pos rfl,if_pos (by simp)]
            push_cast
            omega
          · rw[if_neg e3,if_neg (by simp;omega)]
            rfl
        · rw[if_neg e2,if_neg e2]
      · rw[if_neg e,rd_consS,ih _ i hf h.2 hi']
        by_cases e2:0<rd ys i
        · rw[if_pos e2,if_pos e2,if_neg (by simp;omega)]
          rfl
        · rw[if_neg e2,if_neg e2]
theorem asg_at (z:Int) (xs:List Int):∀ (i0:Nat) (nx:Int) (l:List Int) (j:Nat),0≤nx→nx+xs.length≤1000000000000→i0+xs.length≤l.length→j<l.length→
    (asg z xs i0 nx l).2=nx+((xs.count z:Nat):Int)∧rd (asg z xs i0 nx l).1 j=if i0≤j∧j<i0+xs.length∧rd xs ((j-i0:Nat):Int)=z then nx+(((xs.take (j-i0)).count z:Nat):Int)else rd l j:=by
  induction xs with
  | nil =>
    intro i0 nx l j _ _ _ _
    rw[if_neg (by simp;omega)]
    exact⟨by simp[asg],rfl⟩
  | cons x xs ih =>
    intro i0 nx l j h0 h1 h2 hj
    rw[List.length_cons]at h1 h2
    push_cast at h1
    rw[asg,List.count_cons]
    by_cases e:x=z
    · rw[if_pos e,w64 (by omega) (by omega)]
      obtain⟨a1,a2⟩:=ih (i0+1) (nx+1) (l.set i0 nx) j (by omega) (by omega) (by rw[List.length_set];omega) (by rw[List.length_set];exact hj)
      rw[a1,a2,if_pos (by simp[e])]
      refine⟨by push_cast;omega,?_⟩
      rw[rd_set' l i0 j nx (by omega)]
      by_cases ej:j=i0
      · subst ej
        rw[if_neg (by omega),if_pos rfl,Nat.sub_self,rd_cons0,if_pos ⟨Nat.le_refl _,by rw[List.length_cons];omega,e⟩,List.take_zero]
        simp
      · by_cases el:i0<j
        · obtain⟨d,rfl⟩:∃ d,j=i0+1+d:=⟨j-i0-1,by omega⟩
          rw[show i0+1+d-(i0+1)=d by omega,show i0+1+d-i0=d+1 by omega,rd_consS,List.take_succ_cons,List.count_cons,if_neg ej,List.length_cons]
          by_cases ec:d<xs.length∧rd xs (d:Nat)=z
          · rw[if_pos ⟨by omega,by omega,ec.2⟩,if_pos ⟨by omega,by omega,ec.2⟩,if_pos (by simp[e])]
            push_cast
            omega
          · rw[if_neg (fun h=>ec ⟨by omega,h.2.2⟩),if_neg (fun h=>ec ⟨by omega,h.2.2⟩)]
        · rw[if_neg (by omega),if_neg ej,if_neg (by omega)]
    · rw[if_neg e]
      obtain⟨a1,a2⟩:=ih (i0+1) nx l j h0 (by omega) (by omega) hj
      rw[a1,a2,if_neg (by simp[e])]
      refine⟨by omega,?_⟩
      by_cases ej:j=i0
      · subst ej
        rw[if_neg (by omega),if_neg]
        intro h
        rw[Nat.sub_self,rd_cons0]at h
        exact e h.2.2
      · by_cases el:i0<j
        · obtain⟨d,rfl⟩:∃ d,j=i0+1+d:=⟨j-i0-1,by omega⟩
          rw[show i0+1+d-(i0+1)=d by omega,show i0+1+d-i0=d+1 by omega,rd_consS,List.take_succ_cons,List.count_cons,List.length_cons]
          by_cases ec:d<xs.length∧rd xs (d:Nat)=z
          · rw[if_pos ⟨by omega,by omega,ec.2⟩,if_pos ⟨by omega,by omega,ec.2⟩,if_neg (by simp[e])]
            rfl
          · rw[if_neg (fun h=>ec ⟨by omega,h.2.2⟩),if_neg (fun h=>ec ⟨by omega,h.2.2⟩)]
        · rw[if_neg (by omega),if_neg (by omega)]
theorem fstB_bd' (xs:List Int) (h:xs.length≤1000) (n:Nat):0≤fstB xs n∧fstB xs n≤2000*2 ^ n-2000:=by
  induction n with
  | zero=>exact⟨Int.le_refl _,by rw[fstB];decide⟩
  | succ n ih =>
    have hc:0≤cntB xs n∧cntB xs n≤xs.length:=by
      unfold cntB
      split
      · omega
      · have:=List.count_le_length (a:=(n:Int)) (l:=xs);omega
    rw[fstB,Int.pow_succ]
    generalize (2:Int) ^ n=z at ih ⊢
    omega
theorem two15 (z:Nat) (h:z≤16):(2:Int) ^ z≤65536:=by
  have h2:(2:Nat) ^ z≤2 ^ 16:=Nat.pow_le_pow_right (by decide) h
  have h3:(2:Nat) ^ 16=65536:=by decide
  rw[h3]at h2
  have e:((2 ^ z:Nat):Int)=(2:Int) ^ z:=by simp
  omega
theorem asgs_len (xs:List Int) (d:Nat):∀ (z:Nat) (nx:Int) (l:List Int),(asgs xs d z nx l).length=l.length:=by
  induction d with
  | zero=>intros;rfl
  | succ d ih=>intro z nx l;rw[asgs,ih,asg_len]
theorem asgs_at (xs:List Int) (hx:xs.length≤1000) (hall:xs.all (inB 15)=true) (d:Nat):∀ (z:Nat) (nx:Int) (l:List Int) (j:Nat),z+d=16→1≤z→0≤nx→2*nx=fstB xs z→l.length=xs.length→j<xs.length→
    rd (asgs xs d z nx l) j=if(z:Int)≤rd xs j then fstB xs (rd xs j).toNat+(((xs.take j).count (rd xs j):Nat):Int)else rd l j:=by
  induction d with
  | zero =>
    intro z nx l j hz h1 h0 hn hl hj
    have hb:=List.all_eq_true.mp hall xs[j] (List.getElem_mem hj)
    simp only[inB,Bool.and_eq_true,decide_eq_true_eq]at hb
    rw[asgs,if_neg (by rw[rd_at xs j hj];omega)]
  | succ d ih =>
    intro z nx l j hz h1 h0 hn hl hj
    have hf:=fstB_bd' xs hx z
    have h2:=two15 z (by omega)
    have hw:wrap64 (2*nx)=fstB xs z:=by rw[hn];exact w64 (by omega) (by omega)
    obtain⟨a1,a2⟩:=asg_at (z:Int) xs 0 (fstB xs z) l j hf.1 (by omega) (by omega) (by omega)
    have hc:cntB xs z=((xs.count (z:Int):Nat):Int):=by unfold cntB;rw[if_neg (by omega)]
    rw[asgs,hw,ih (z+1) _ _ j (by omega) (by omega) (by rw[a1];omega) (by rw[a1,fstB,hc]) (by rw[asg_len];exact hl) hj,a2]
    rw[Nat.sub_zero]
    by_cases e:rd xs j=(z:Int)
    · rw[if_neg (by omega),if_pos ⟨by omega,by omega,e⟩,if_pos (by omega),e,Int.toNat_natCast]
    · by_cases e2:(z:Int)≤rd xs j
      · rw[if_pos (by omega),if_pos e2]
      · rw[if_neg (by omega),if_neg (fun h=>e h.2.2),if_neg e2]
theorem codes_eq (xs:List Int) (hx:xs.length≤1000) (hall:xs.all (inB 15)=true):giveB xs ((List.range 16).map (fstB xs))=asgs xs 15 1 0 (List.replicate xs.length 0):=by
  refine List.ext_getElem (by rw[giveB_len,asgs_len,List.length_replicate]) (fun i h1 h2=>?_)
  rw[giveB_len]at h1
  have hb:=List.all_eq_true.mp hall xs[i] (List.getElem_mem h1)
  simp only[inB,Bool.and_eq_true,decide_eq_true_eq]at hb
  have g:=giveB_at xs ((List.range 16).map (fstB xs)) i (by simp) hall h1
  have a:=asgs_at xs hx hall 15 1 0 (List.replicate xs.length 0) i (by omega) (by omega) (by omega) rfl (by simp) h1
  rw[rd_at _ i (by rw[giveB_len];exact h1)]at g
  rw[rd_at _ i h2]at a
  rw[g,a,rd_at xs i h1]
  obtain⟨n,hn⟩:=Int.eq_ofNat_of_zero_le hb.1
  rw[hn]
  by_cases e:0<(n:Int)
  · rw[if_pos e,if_pos (by omega),Int.toNat_natCast]
    have:rd ((List.range 16).map (fstB xs)) (n:Int)=fstB xs n:=by
      unfold rd
      simp only[Int.toNat_natCast,List.getD_eq_getElem?_getD,List.getElem?_map]
      rw[List.getElem?_range (by omega)]
      rfl
    rw[this]
  · rw[if_neg e,if_neg (by omega)]
    unfold rd
    rw[Int.toNat_natCast,List.getD_eq_getElem?_getD,List.getElem?_replicate,if_pos h1]
    rfl
theorem codesB_eq (xs:List Int):codesB xs=codesL xs:=by
  unfold codesB codesL
  rw[kindB_eq]
  by_cases h:kindL xs=0∨kindL xs=5
  · rw[if_pos h,if_pos h]
  · rw[if_neg h,if_neg h]
    have hk:(xs.length:Int)≤288∧xs.all (inB 15)=true:=by
      by_cases hc:(xs.length:Int)≤288∧xs.all (inB 15)=true
      · exact hc
      · exact absurd (Or.inl (by unfold kindL;rw[if_neg hc])) h
    rw[codes_eq xs (by omega) hk.2]
theorem runsG_bd (xs:List Int) (hall:xs.all (inB 15)=true) (d:Nat):∀ i:Nat,(∀ r∈runsG d xs i,0≤r.f0∧r.f0≤18∧0≤r.f1∧r.f1≤1000)∧(runsG d xs i).length≤d:=by
  induction d with
  | zero=>intro i;exact⟨fun r h=>(by cases h),Nat.le_refl _⟩
  | succ d ih =>
    intro i
    rw[runsG]
    by_cases h:i<xs.length
    · rw[if_pos h]
      have hb:=List.all_eq_true.mp hall xs[i] (List.getElem_mem h)
      simp only[inB,Bool.and_eq_true,decide_eq_true_eq]at hb
      obtain⟨i1,i2⟩:=ih (i+(stepR xs i).2.2)
      refine⟨fun r hr=>?_,by rw[List.length_cons];omega⟩
      rcases List.mem_cons.mp hr with rfl|hr
      · clear i1 i2 ih hr
        unfold stepR
        split
        · refine⟨?_,?_,?_,?_⟩ <;> dsimp only <;> omega
        · split
          · refine⟨?_,?_,?_,?_⟩ <;> dsimp only <;> omega
          · split
            · refine⟨?_,?_,?_,?_⟩ <;> dsimp only <;> omega
            · rw[rd_at xs i h]
              refine⟨?_,?_,?_,?_⟩ <;> dsimp only <;> omega
      · exact i1 r hr
    · rw[if_neg h]
      exact⟨fun r h=>(by cases h),by rw[List.length_nil];omega⟩
theorem rd_Run (xs:List S52) (i:Nat) (h:i<xs.length):rd_T52 xs i=xs[i]:=by simp[rd_T52,List.getD,h]
def syms (rs:List S52):List Int:=rs.map fun r=>r.f0
def cnt19 (rs:List S52):List Int:=bump (List.replicate 19 0) (syms rs)
def thirdL (rs:List S52):List Int :=
  if kindL (limL (cnt19 rs) 7)=3 then(if rd (limL (cnt19 rs) 7) 0=0 then(limL (cnt19 rs) 7).set 0 1 else(limL (cnt19 rs) 7).set 1 1)else limL (cnt19 rs) 7
theorem bump_cons (l:List Int) (s:Int) (ss:List Int):bump l (s :: ss)=bump (l.set s.toNat (wrap64 (rd l s+1))) ss:=rfl
theorem impl_third_l0 (rs:List S52) (hx:rs.length≤1000) (hr:∀ r∈rs,0≤r.f0∧r.f0≤18) (d:Nat):∀ (k i:Nat) (c:List Int),i≤rs.length→rs.length-i=d→c.length=19→
    impl_thirdLengths.l0 (k+d+1) c rs rs.length i=impl_thirdLengths.l0 (k+1) (bump c (syms (rs.drop i))) rs rs.length rs.length:=by
  induction d with
  | zero =>
    intro k i c hi hd hc
    obtain rfl:i=rs.length:=by omega
    rw[List.drop_length]
    rfl
  | succ d ih =>
    intro k i c hi hd hc
    have lt:i<rs.length:=by omega
    have hb:=hr rs[i] (List.getElem_mem lt)
    have hih:=ih k (i+1) (c.set rs[i].f0.toNat (wrap64 (rd c rs[i].f0+1))) (by omega) (by omega) (by rw[List.length_set];exact hc)
    have hdr:syms (rs.drop i)=rs[i].f0 :: syms (rs.drop (i+1)):=by rw[List.drop_eq_getElem_cons lt];rfl
    rw[hdr,bump_cons,← hih,show k+(d+1)+1=(k+d+1)+1 by omega]
    clear hih ih hdr
    rw[impl_thirdLengths.l0,if_pos (by omega),if_pos (by omega),if_pos (by omega),rd_Run rs i lt,if_pos hb.1,if_pos (by omega)]
    have ew:wrap64 ((i:Int)+1)=((i+1:Nat):Int):=(w64 (x:=(i:Int)+1) (by omega) (by omega)).trans (by omega)
    rw[ew]
theorem cnt19_ok (rs:List S52) (hx:rs.length≤1000) (hr:∀ r∈rs,0≤r.f0∧r.f0≤18):(cnt19 rs).length=19∧(cnt19 rs).all (inB 12000)=true∧∀ r∈rs,rd (cnt19 rs) r.f0≠0:=by
  have key:∀ j:Nat,j<19→rd (cnt19 rs) j=(((syms rs).count (j:Int):Nat):Int)∧(cnt19 rs).length=19:=fun j hj=>by
    have hc:=List.count_le_length (a:=(j:Int)) (l:=syms rs)
    have hl2:(syms rs).length=rs.length:=List.length_map ..
    have:=bump_at (syms rs) (List.replicate 19 0) j (fun q hq=>by
      obtain⟨r,h1,rfl⟩:=List.mem_map.mp hq
      have:=hr r h1
      rw[List.length_replicate]
      omega) (by rw[List.length_replicate];exact hj) (by rw[rd_rep];omega) (by rw[rd_rep];omega)
    rw[rd_rep,List.length_replicate]at this
    unfold cnt19
    exact⟨by rw[this.1];omega,this.2⟩
  have hl:=(key 0 (by omega)).2
  refine⟨hl,all_rd _ _ (fun j hj=>?_),fun r h=>?_⟩
  · rw[hl]at hj
    have hc:=List.count_le_length (a:=(j:Int)) (l:=syms rs)
    have hl2:(syms rs).length=rs.length:=List.length_map ..
    rw[(key j hj).1]
    omega
  · have hb:=hr r h
    obtain⟨j,hj⟩:=Int.eq_ofNat_of_zero_le hb.1
    have hm:r.f0∈syms rs:=List.mem_map.mpr ⟨r,h,rfl⟩
    rw[hj]at hm ⊢
    have:=List.count_pos_iff.mpr hm
    rw[(key j (by omega)).1]
    omega
theorem posN19 (rs:List S52) (hx:rs.length≤1000) (hr:∀ r∈rs,0≤r.f0∧r.f0≤18):posN (cnt19 rs)≤2 ^ 7:=Nat.le_trans (posN_le _) (by rw[(cnt19_ok rs hx hr).1];decide)
theorem impl_third_eq (rs:List S52) (hx:rs.length≤1000) (hr:∀ r∈rs,0≤r.f0∧r.f0≤18) (k:Nat) (hk:30000000≤k):impl_thirdLengths.f k rs=some (thirdL rs):=by
  obtain⟨c1,c2,_⟩:=cnt19_ok rs hx hr
  have hp:=posN19 rs hx hr
  obtain⟨k,rfl⟩:∃ m,k=m+rs.length+1:=⟨k-rs.length-1,by omega⟩
  unfold impl_thirdLengths.f
  rw[if_pos (by omega)]
  refine Eq.trans (impl_third_l0 rs hx hr rs.length k 0 (List.replicate 19 0) (by omega) (by omega) (by rw[List.length_replicate])) ?_
  rw[List.drop_zero,show bump (List.replicate 19 0) (syms rs)=cnt19 rs from rfl]
  have h7:=impl_Lim_eq (cnt19 rs) (by omega) c2 7 (by omega) (by omega) pow7 hp k (by omega)
  rw[show((7:Nat):Int)=7 from rfl]at h7
  have hl7:=limL_len (cnt19 rs) 7
  rw[impl_thirdLengths.l0,if_neg (by omega),h7,Option.bind_some]
  dsimp only
  rw[impl_CodeKind.f,if_pos (by omega),Option.bind_some,kindB_eq]
  unfold thirdL
  by_cases e:kindL (limL (cnt19 rs) 7)=3
  · rw[if_pos e,if_pos e,if_pos (by omega)]
    by_cases e0:rd (limL (cnt19 rs) 7) 0=0
    · rw[if_pos e0,if_pos e0];rfl
    · rw[if_neg e0,if_neg e0,if_pos (by omega)];rfl
  · rw[if_neg e,if_neg e]
theorem spec_third_l0 (x1:List S70) (x2:Bool) (x8 x9:List Int) (b:ByteArray) (n:Int) (rs:List S52) (hx:rs.length≤1000) (hr:∀ r∈rs,0≤r.f0∧r.f0≤18) (d:Nat):∀ (k i:Nat) (c:List Int),i≤rs.length→rs.length-i=d→c.length=19→
    spec_WovenBlock.l0 (k+d+1) x1 x2 x8 x9 rs c i b n=spec_WovenBlock.l0 (k+1) x1 x2 x8 x9 rs (bump c (syms (rs.drop i))) rs.length b n:=by
  induction d with
  | zero =>
    intro k i c hi hd hc
    obtain rfl:i=rs.length:=by omega
    rw[List.drop_length]
    rfl
  | succ d ih =>
    intro k i c hi hd hc
    have lt:i<rs.length:=by omega
    have hb:=hr rs[i] (List.getElem_mem lt)
    have hih:=ih k (i+1) (c.set rs[i].f0.toNat (wrap64 (rd c rs[i].f0+1))) (by omega) (by omega) (by rw[List.length_set];exact hc)
    have hdr:syms (rs.drop i)=rs[i].f0 :: syms (rs.drop (i+1)):=by rw[List.drop_eq_getElem_cons lt];rfl
    rw[hdr,bump_cons,← hih,show k+(d+1)+1=(k+d+1)+1 by omega]
    clear hih ih hdr
    rw[spec_WovenBlock.l0,if_pos (by omega),if_pos (by omega),rd_Run rs i lt,if_pos hb.1,if_pos (by omega)]
    have ew:wrap64 ((i:Int)+1)=((i+1:Nat):Int):=(w64 (x:=(i:Int)+1) (by omega) (by omega)).trans (by omega)
    rw[ew]
theorem spec_third_eq (x1:List S70) (x2:Bool) (x8 x9:List Int) (b:ByteArray) (n:Int) (rs:List S52) (hx:rs.length≤1000) (hr:∀ r∈rs,0≤r.f0∧r.f0≤18) (k:Nat) (hk:30000000≤k) :
    spec_WovenBlock.l0 (k+rs.length+1) x1 x2 x8 x9 rs (List.replicate 19 0) 0 b n=spec_WovenBlock.j1 k x1 x2 x8 x9 rs (thirdL rs) b n:=by
  obtain⟨c1,c2,_⟩:=cnt19_ok rs hx hr
  have hp:=posN19 rs hx hr
  refine Eq.trans (spec_third_l0 x1 x2 x8 x9 b n rs hx hr rs.length k 0 (List.replicate 19 0) (by omega) (by omega) (by rw[List.length_replicate])) ?_
  rw[List.drop_zero,show bump (List.replicate 19 0) (syms rs)=cnt19 rs from rfl]
  have h7:=spec_Lim_eq (cnt19 rs) (by omega) c2 7 (by omega) (by omega) hp k (by omega)
  rw[show((7:Nat):Int)=7 from rfl]at h7
  have hl7:=limL_len (cnt19 rs) 7
  rw[spec_WovenBlock.l0,if_neg (by omega),h7,Option.bind_some]
  dsimp only
  rw[spec_CodeKind_eq _ k (by omega),Option.bind_some]
  unfold thirdL
  by_cases e:kindL (limL (cnt19 rs) 7)=3
  · rw[if_pos e,if_pos e,if_pos (by omega)]
    by_cases e0:rd (limL (cnt19 rs) 7) 0=0
    · rw[if_pos e0,if_pos e0];rfl
    · rw[if_neg e0,if_neg e0,if_pos (by omega)];rfl
  · rw[if_neg e,if_neg e]
theorem or_free0:∀ (m:Fin 8) (v:Fin 2) (a:Fin 128),a.val<2 ^ m.val→Go.bits .or .u8 (a.val:Int) ((v.val:Int)*2 ^ m.val)=(a.val:Int)+(v.val:Int)*2 ^ m.val:=by decide +kernel
theorem or_free (a v:Int) (m:Nat) (hm:m<8) (h0:0≤a) (h1:a<2 ^ m) (hv:0≤v∧v≤1):Go.bits .or .u8 a (v*2 ^ m)=a+v*2 ^ m:=by
  obtain⟨a',rfl⟩:=Int.eq_ofNat_of_zero_le h0
  obtain⟨v',rfl⟩:=Int.eq_ofNat_of_zero_le hv.1
  have e:((2 ^ m:Nat):Int)=(2:Int) ^ m:=by simp
  have hp:2 ^ m≤2 ^ 7:=Nat.pow_le_pow_right (by decide) (by omega)
  have h7:(2:Nat) ^ 7=128:=by decide
  rw[h7]at hp
  exact or_free0 ⟨m,hm⟩ ⟨v',by omega⟩ ⟨a',by omega⟩ (by show a'<2 ^ m;omega)
def Clean (xs:List Int) (c:Nat):Prop:=xs.length=(c+7) / 8∧(∀ x∈xs,0≤x∧x≤255)∧(c % 8≠0→rd xs ((xs.length-1:Nat):Int)<2 ^ (c % 8))
def stepW (p:List Int×Nat) (v:Int):List Int×Nat :=
  ((if p.2 % 8=0 then p.1++[0]else p.1).set (p.2 / 8) (rd (if p.2 % 8=0 then p.1++[0]else p.1) ((p.2 / 8:Nat):Int)+v*2 ^ (p.2 % 8)),p.2+1)
def writeL (p:List Int×Nat) (vs:List Int):List Int×Nat:=vs.foldl stepW p
theorem rd_setW (fs:List Int) (n:Nat) (x:Int) (h:n<fs.length):rd (fs.set n x) (n:Int)=x:=by
  unfold rd
  rw[Int.toNat_natCast,List.getD_eq_getElem?_getD,List.getElem?_set_self h]
  rfl
theorem rd_mem (xs:List Int) (h:∀ x∈xs,0≤x∧x≤255) (i:Nat):0≤rd xs i∧rd xs i≤255:=by
  by_cases hi:i<xs.length
  · rw[rd_at xs i hi];exact h _ (List.getElem_mem hi)
  · unfold rd
    rw[Int.toNat_natCast,List.getD_eq_getElem?_getD,List.getElem?_eq_none (by omega)]
    exact⟨by decide,by decide⟩
theorem pow_small (m:Nat) (h:m<8):(1:Int)≤2 ^ m∧(2:Int) ^ m≤128:=by
  have h1:(1:Nat)≤2 ^ m:=Nat.one_le_two_pow
  have h2:2 ^ m≤2 ^ 7:=Nat.pow_le_pow_right (by decide) (by omega)
  have h7:(2:Nat) ^ 7=128:=by decide
  have e:((2 ^ m:Nat):Int)=(2:Int) ^ m:=by simp
  omega
theorem clean_base (xs:List Int) (c:Nat) (h:Clean xs c):c / 8<(if c % 8=0 then xs++[0]else xs).length∧(if c % 8=0 then xs++[0]else xs).length=c / 8+1∧(∀ x∈(if c % 8=0 then xs++[0]else xs),0≤x∧x≤255)∧0≤rd (if c % 8=0 then xs++[0]else xs) ((c / 8:Nat):Int)∧rd (if c % 8=0 then xs++[0]else xs) ((c / 8:Nat):Int)<2 ^ (c % 8):=by
  obtain⟨h1,h2,h3⟩:=h
  by_cases e:c % 8=0
  · rw[if_pos e]
    have hl:(xs++[0]).length=c / 8+1:=by rw[List.length_append,h1];simp;omega
    have hr:rd (xs++[0]) ((c / 8:Nat):Int)=0:=by
      rw[show c / 8=xs.length by omega]
      unfold rd
      rw[Int.toNat_natCast,List.getD_eq_getElem?_getD,List.getElem?_append_right (Nat.le_refl _),Nat.sub_self]
      rfl
    refine⟨by omega,hl,fun x hx=>?_,by rw[hr];exact Int.le_refl _,by rw[hr,e];decide⟩
    rcases List.mem_append.mp hx with hx|hx
    · exact h2 x hx
    · rw[List.mem_singleton.mp hx];omega
  · rw[if_neg e]
    have hl:xs.length=c / 8+1:=by omega
    refine⟨by omega,hl,h2,(rd_mem xs h2 _).1,?_⟩
    have:=h3 e
    rwa [show xs.length-1=c / 8 by omega]at this
theorem stepW_clean (xs:List Int) (c:Nat) (v:Int) (hv:0≤v∧v≤1) (h:Clean xs c):Clean (stepW (xs,c) v).1 (c+1):=by
  obtain⟨b1,b2,b3,b4,b5⟩:=clean_base xs c h
  unfold stepW
  dsimp only
  generalize hB:(if c % 8=0 then xs++[0]else xs)=B at b1 b2 b3 b4 b5 ⊢
  have hp:=pow_small (c % 8) (by omega)
  have hv2:0≤v*2 ^ (c % 8)∧v*2 ^ (c % 8)≤2 ^ (c % 8):=by
    have:v=0∨v=1:=by omega
    rcases this with rfl|rfl
    · rw[Int.zero_mul];omega
    · rw[Int.one_mul];omega
  refine⟨by rw[List.length_set,b2];omega,fun x hx=>?_,fun hc=>?_⟩
  · rcases List.mem_or_eq_of_mem_set hx with hx|hx
    · exact b3 x hx
    · rw[hx];omega
  · rw[List.length_set,b2,show c / 8+1-1=c / 8 by omega,rd_setW B (c / 8) _ b1,show(c+1) % 8=c % 8+1 by omega,Int.pow_succ]
    omega
theorem and_one (n:Int) (h:0≤n) (h2:n≤4611686018427387903):Go.bits .and .i64 n 1=n % 2:=by
  have:=bits_mask .i64 62 (by decide) (fun n h0 h1=>by rw[IntKind.wrap_i64];omega) 1 (by omega) n h (by omega)
  simpa using this
theorem putL_eq (xs:List Int) (c:Nat) (n:Int) (h:Clean xs c) (hn:0≤n∧n≤4611686018427387903):putL xs (c:Int) n=(stepW (xs,c) (n % 2)).1:=by
  obtain⟨b1,b2,b3,b4,b5⟩:=clean_base xs c h
  unfold putL stepW
  dsimp only
  have e1:((c:Int) % 8=0)=(c % 8=0):=propext ⟨fun _=>by omega,fun _=>by omega⟩
  have e2:(c:Int) / 8=((c / 8:Nat):Int):=by omega
  have e3:((c:Int) % 8).toNat=c % 8:=by omega
  simp only[e1,e2,e3,Int.toNat_natCast,and_one n hn.1 hn.2]
  generalize hB:(if c % 8=0 then xs++[0]else xs)=B at b1 b2 b3 b4 b5 ⊢
  have hp:=pow_small (c % 8) (by omega)
  have hv:0≤n % 2∧n % 2≤1:=by omega
  have e4:n % 2 % 256*2 ^ (c % 8) % 256=n % 2*2 ^ (c % 8):=by
    rw[show n % 2 % 256=n % 2 by omega]
    have:n % 2=0∨n % 2=1:=by omega
    rcases this with h|h
    · rw[h,Int.zero_mul];rfl
    · rw[h,Int.one_mul];omega
  rw[e4,or_free _ _ _ (by omega) b4 b5 hv]
theorem bytesOf_str (xs:List Int) (h:∀ x∈xs,0≤x∧x≤255):bytesOf (strOfNums xs)=xs:=by
  unfold bytesOf strOfNums
  simp only[List.map_map]
  rw[List.map_congr_left (g:=id) (fun x hx=>?_)]
  · simp
  · obtain⟨h1,h2⟩:=h x hx
    simp only[Function.comp,id]
    rw[UInt8.toNat_ofNat']
    omega
theorem size_str (xs:List Int):(strOfNums xs).size=xs.length:=by
  show(strOfNums xs).data.size=_
  simp[strOfNums]
theorem stepW_snd (p:List Int×Nat) (v:Int):(stepW p v).2=p.2+1:=rfl
theorem writeL_snd (vs:List Int):∀ p,(writeL p vs).2=p.2+vs.length:=by
  induction vs with
  | nil=>intro p;rfl
  | cons v vs ih=>intro p;show(writeL (stepW p v) vs).2=_;rw[ih,stepW_snd,List.length_cons];omega
theorem writeL_clean (vs:List Int) (hv:∀ v∈vs,0≤v∧v≤1):∀ p:List Int×Nat,Clean p.1 p.2→Clean (writeL p vs).1 (writeL p vs).2:=by
  induction vs with
  | nil=>intro p h;exact h
  | cons v vs ih =>
    intro p h
    exact ih (fun x hx=>hv x (List.mem_cons_of_mem _ hx)) (stepW p v) (stepW_clean p.1 p.2 v (hv v (List.mem_cons_self ..)) h)
theorem impl_bit_eq (xs:List Int) (c:Nat) (n:Int) (h:Clean xs c) (hc:c≤1000000000) (hn:0≤n∧n≤4611686018427387903):impl_writer_bit.f (strOfNums xs) c n=some (strOfNums (stepW (xs,c) (n % 2)).1,(((stepW (xs,c) (n % 2)).2:Nat):Int)):=by
  unfold impl_writer_bit.f
  have h1:=h.1
  rw[size_str,if_pos ⟨by omega,by omega,by omega⟩]
  unfold putBit
  rw[bytesOf_str xs h.2.1,putL_eq xs c n h hn]
  rfl
def bitsV (v:Int) (n:Nat) (hi:Bool):List Int:=(List.range n).map fun j=>v / 2 ^ (if hi=true then n-1-j else j) % 2
theorem bitsV_bd (v:Int) (n:Nat) (hi:Bool):∀ x∈bitsV v n hi,0≤x∧x≤1:=by
  intro x hx
  obtain⟨j,_,rfl⟩:=List.mem_map.mp hx
  omega
theorem shr_eq (v:Int) (j:Nat) (hj:j≤63):shr .i64 v (j:Int)=v / 2 ^ j:=by
  unfold shr
  rw[show min (j:Int).toNat IntKind.i64.bits=j by simp[IntKind.bits];omega]
theorem shr_bd (v:Int) (j:Nat) (hv:0≤v∧v≤1000000000):0≤v / 2 ^ j∧v / 2 ^ j≤1000000000 :=
  ⟨Int.ediv_nonneg hv.1 (by have:(0:Int)≤((2 ^ j:Nat):Int):=Int.natCast_nonneg _;simpa using this),Int.le_trans (Int.ediv_le_self _ hv.1) hv.2⟩
theorem writeL_cons (p:List Int×Nat) (v:Int) (vs:List Int):writeL p (v :: vs)=writeL (stepW p v) vs:=rfl
theorem writeL_app (vs ws:List Int) (p:List Int×Nat):writeL p (vs++ws)=writeL (writeL p vs) ws:=List.foldl_append ..
theorem range_drop (n i:Nat) (h:i<n) (g:Nat→Int):((List.range n).map g).drop i=g i :: ((List.range n).map g).drop (i+1):=by
  have hl:i<((List.range n).map g).length:=by rw[List.length_map,List.length_range];exact h
  rw[List.drop_eq_getElem_cons hl,List.getElem_map,List.getElem_range]
theorem impl_bits_l0 (v:Int) (hv:0≤v∧v≤1000000000) (n:Nat) (hn:n≤60) (d:Nat):∀ (k i:Nat) (xs:List Int) (c:Nat),i≤n→n-i=d→d<k→Clean xs c→c+d≤1000000000→
    impl_writer_bits.l0 k v n i (strOfNums xs) c=some (strOfNums (writeL (xs,c) ((bitsV v n false).drop i)).1,(((writeL (xs,c) ((bitsV v n false).drop i)).2:Nat):Int)):=by
  induction d with
  | zero =>
    intro k i xs c hi hd hk hc hb
    obtain⟨k,rfl⟩:∃ m,k=m+1:=⟨k-1,by omega⟩
    rw[impl_writer_bits.l0,if_neg (by omega),List.drop_eq_nil_of_le (by unfold bitsV;rw[List.length_map,List.length_range];omega)]
    rfl
  | succ d ih =>
    intro k i xs c hi hd hk hc hb
    obtain⟨k,rfl⟩:∃ m,k=m+1:=⟨k-1,by omega⟩
    have hq:=shr_bd v i hv
    have hst:=stepW_clean xs c (v / 2 ^ i % 2) (by omega) hc
    have hdr:(bitsV v n false).drop i=(v / 2 ^ i % 2) :: (bitsV v n false).drop (i+1):=by
      unfold bitsV
      rw[range_drop n i (by omega)]
      rfl
    have hih:=ih k (i+1) (stepW (xs,c) (v / 2 ^ i % 2)).1 (c+1) (by omega) (by omega) (by omega) hst (by omega)
    rw[impl_writer_bits.l0,if_pos (by omega),if_pos (by omega),shr_eq v i (by omega),impl_bit_eq xs c _ hc (by omega) ⟨hq.1,by omega⟩,Option.bind_some,hdr,writeL_cons]
    dsimp only
    rw[stepW_snd]
    clear hq
    have ew:wrap64 ((i:Int)+1)=((i+1:Nat):Int):=(w64 (x:=(i:Int)+1) (by omega) (by omega)).trans (by omega)
    rw[ew]
    exact hih
theorem impl_bits_eq (xs:List Int) (c:Nat) (h:Clean xs c) (hc:c≤900000000) (v:Int) (hv:0≤v∧v≤1000000000) (n:Nat) (hn:n≤60) (k:Nat) (hk:61≤k):impl_writer_bits.f k (strOfNums xs) c v n=some (strOfNums (writeL (xs,c) (bitsV v n false)).1,(((writeL (xs,c) (bitsV v n false)).2:Nat):Int)):=by
  have:=impl_bits_l0 v hv n hn n k 0 xs c (by omega) (by omega) (by omega) h (by omega)
  rw[List.drop_zero]at this
  exact this
theorem impl_code_l0 (v:Int) (hv:0≤v∧v≤1000000000) (n:Nat) (hn:n≤60) (d:Nat):∀ (k i:Nat) (xs:List Int) (c:Nat),i≤n→n-i=d→d<k→Clean xs c→c+d≤1000000000→
    impl_writer_code.l0 k v (((d:Nat):Int)-1) (strOfNums xs) c=some (strOfNums (writeL (xs,c) ((bitsV v n true).drop i)).1,(((writeL (xs,c) ((bitsV v n true).drop i)).2:Nat):Int)):=by
  induction d with
  | zero =>
    intro k i xs c hi hd hk hc hb
    obtain⟨k,rfl⟩:∃ m,k=m+1:=⟨k-1,by omega⟩
    rw[impl_writer_code.l0,if_neg (by omega),List.drop_eq_nil_of_le (by unfold bitsV;rw[List.length_map,List.length_range];omega)]
    rfl
  | succ d ih =>
    intro k i xs c hi hd hk hc hb
    obtain⟨k,rfl⟩:∃ m,k=m+1:=⟨k-1,by omega⟩
    have hq:=shr_bd v d hv
    have hst:=stepW_clean xs c (v / 2 ^ d % 2) (by omega) hc
    have hdr:(bitsV v n true).drop i=(v / 2 ^ d % 2) :: (bitsV v n true).drop (i+1):=by
      unfold bitsV
      rw[range_drop n i (by omega),if_pos rfl,show n-1-i=d by omega]
    have hih:=ih k (i+1) (stepW (xs,c) (v / 2 ^ d % 2)).1 (c+1) (by omega) (by omega) (by omega) hst (by omega)
    have ed:(((d+1:Nat):Int)-1)=(d:Int):=by omega
    rw[ed,impl_writer_code.l0,if_pos (by omega),if_pos (by omega),shr_eq v d (by omega),impl_bit_eq xs c _ hc (by omega) ⟨hq.1,by omega⟩,Option.bind_some,hdr,writeL_cons]
    dsimp only
    rw[stepW_snd]
    clear hq
    have ew:wrap64 ((d:Int)-1)=(d:Int)-1:=w64 (x:=(d:Int)-1) (by omega) (by omega)
    rw[ew]
    exact hih
theorem impl_code_eq (xs:List Int) (c:Nat) (h:Clean xs c) (hc:c≤900000000) (v:Int) (hv:0≤v∧v≤1000000000) (n:Nat) (hn:n≤60) (k:Nat) (hk:61≤k):impl_writer_code.f k (strOfNums xs) c v n=some (strOfNums (writeL (xs,c) (bitsV v n true)).1,(((writeL (xs,c) (bitsV v n true)).2:Nat):Int)):=by
  have:=impl_code_l0 v hv n hn n k 0 xs c (by omega) (by omega) (by omega) h (by omega)
  rw[List.drop_zero]at this
  unfold impl_writer_code.f
  rw[w64 (by omega) (by omega)]
  exact this
theorem impl_symbol_eq (xs:List Int) (c:Nat) (h:Clean xs c) (hc:c≤900000000) (cs ls:List Int) (s:Int) (hs:0≤s∧s<cs.length∧s<ls.length) (hv:0≤rd cs s∧rd cs s≤1000000000) (hn:0≤rd ls s∧rd ls s≤60) (k:Nat) (hk:61≤k):impl_writer_symbol.f k (strOfNums xs) c cs ls s=some (strOfNums (writeL (xs,c) (bitsV (rd cs s) (rd ls s).toNat true)).1,(((writeL (xs,c) (bitsV (rd cs s) (rd ls s).toNat true)).2:Nat):Int)):=by
  unfold impl_writer_symbol.f
  have:=impl_code_eq xs c h hc (rd cs s) hv (rd ls s).toNat (by omega) k hk
  rw[Int.toNat_of_nonneg hn.1]at this
  rw[if_pos hs.1,if_pos hs.2.1,if_pos hs.2.2,this,Option.bind_some]
theorem last_step (xs:List Int) (c:Nat) (v:Int) (hv:0≤v∧v≤1) (h:Clean xs c) (B:List Int) (hB:B=if c % 8=0 then xs++[0]else xs):B.set ((B.length:Int)-1).toNat ((rd B ((B.length:Int)-1)+(v*p2 ((c % 8:Nat):Int)) % 256) % 256)=(stepW (xs,c) v).1:=by
  obtain⟨b1,b2,b3,b4,b5⟩:=clean_base xs c h
  unfold stepW
  dsimp only
  rw[← hB]at b1 b2 b3 b4 b5 ⊢
  have hp:=pow_small (c % 8) (by omega)
  have e1:(B.length:Int)-1=((c / 8:Nat):Int):=by omega
  have e2:p2 ((c % 8:Nat):Int)=2 ^ (c % 8):=by unfold p2;rw[Int.toNat_natCast]
  rw[e1,e2,Int.toNat_natCast]
  have e3:v*2 ^ (c % 8) % 256=v*2 ^ (c % 8)∧rd B ((c / 8:Nat):Int)+v*2 ^ (c % 8)≤255∧0≤v*2 ^ (c % 8):=by
    have:v=0∨v=1:=by omega
    rcases this with rfl|rfl
    · rw[Int.zero_mul];exact⟨rfl,by omega,by omega⟩
    · rw[Int.one_mul];exact⟨by omega,by omega,by omega⟩
  rw[e3.1,Int.emod_eq_of_lt (by omega) (by omega)]
theorem tdiv_bit (v:Int) (hv:0≤v∧v≤1000000000) (j:Nat):wrap64 (Int.tdiv v (p2 (j:Int)))=v / 2 ^ j∧Int.tmod (v / 2 ^ j) 2=v / 2 ^ j % 2:=by
  have hq:=shr_bd v j hv
  have e2:p2 (j:Int)=2 ^ j:=by unfold p2;rw[Int.toNat_natCast]
  rw[e2,Int.tdiv_eq_ediv_of_nonneg hv.1]
  exact⟨w64 (by omega) (by omega),Int.tmod_eq_emod_of_nonneg hq.1⟩
theorem put_bit (v:Int) (hv:0≤v∧v≤1000000000) (j:Nat) (c:Nat) (hc:c≤1000000000):wrap64 (Int.tmod (wrap64 (Int.tdiv v (p2 (j:Int)))) 2*p2 (Int.tmod (c:Int) 8))=v / 2 ^ j % 2*p2 ((c % 8:Nat):Int):=by
  obtain⟨h1,h2⟩:=tdiv_bit v hv j
  rw[h1,h2,Int.tmod_eq_emod_of_nonneg (by omega),show(c:Int) % 8=((c % 8:Nat):Int)by omega]
  have hp:=pow_small (c % 8) (by omega)
  have e2:p2 ((c % 8:Nat):Int)=2 ^ (c % 8):=by unfold p2;rw[Int.toNat_natCast]
  rw[e2]
  have hb:v / 2 ^ j % 2=0∨v / 2 ^ j % 2=1:=by omega
  rcases hb with hb|hb
  · rw[hb,Int.zero_mul];exact w64 (by decide) (by decide)
  · rw[hb,Int.one_mul];exact w64 (by omega) (by omega)
theorem rd_Part (xs:List S62) (i:Nat) (h:i<xs.length):rd_T62 xs i=xs[i]:=by simp[rd_T62,List.getD,h]
def bitsP (p:S62):List Int:=bitsV p.f0 p.f1.toNat p.f2
theorem spec_All_bits (ps:List S62) (hps:ps.length≤1000000) (i:Nat) (hi:i<ps.length) (hv:0≤ps[i].f0∧ps[i].f0≤1000000000) (n:Nat) (hn:ps[i].f1=(n:Int)) (hn60:n≤60) (b:ByteArray) (m:Int) (d:Nat):∀ (k j:Nat) (xs:List Int) (c:Nat),j≤n→n-j=d→100≤k→Clean xs c→c+d≤1000000000→
    spec_l09All.l1 (k+2*d) ps xs c i j b m false=spec_l09All.l1 k ps (writeL (xs,c) ((bitsP ps[i]).drop j)).1 ((writeL (xs,c) ((bitsP ps[i]).drop j)).2:Nat) i n b m false:=by
  induction d with
  | zero =>
    intro k j xs c hj hd hk hc hb
    obtain rfl:j=n:=by omega
    rw[List.drop_eq_nil_of_le (by unfold bitsP bitsV;rw[List.length_map,List.length_range,hn];omega)]
    rfl
  | succ d ih =>
    intro k j xs c hj hd hk hc hb
    obtain⟨K,hK⟩:∃ K,K=k+2*d:=⟨_,rfl⟩
    obtain⟨at_,hat⟩:∃ a:Nat,a=if ps[i].f2=true then n-1-j else j:=⟨_,rfl⟩
    have hat60:at_≤60:=by rw[hat];split <;> omega
    have hbd:0≤ps[i].f0 / 2 ^ at_ % 2∧ps[i].f0 / 2 ^ at_ % 2≤1:=by omega
    have hst:=stepW_clean xs c _ hbd hc
    have hdr:(bitsP ps[i]).drop j=(ps[i].f0 / 2 ^ at_ % 2) :: (bitsP ps[i]).drop (j+1):=by
      unfold bitsP bitsV
      rw[hn,Int.toNat_natCast,range_drop n j (by omega),hat]
    have hih:=ih k (j+1) (stepW (xs,c) (ps[i].f0 / 2 ^ at_ % 2)).1 (c+1) (by omega) (by omega) hk hst (by omega)
    have hpb:=Aside0.mk (put_bit ps[i].f0 hv at_ c (by omega))
    have hpc:=p2_pos (at_:Int)
    have hjw:=Aside0.mk (show wrap64 ((j:Int)+1)=((j+1:Nat):Int)from(w64 (x:=(j:Int)+1) (by omega) (by omega)).trans (by omega))
    have hcw:=Aside0.mk (show wrap64 ((c:Int)+1)=((c+1:Nat):Int)from(w64 (x:=(c:Int)+1) (by omega) (by omega)).trans (by omega))
    have hatw:(if ps[i].f2=true then spec_l09All.j2 (K+1) ps xs c i j (wrap64 (wrap64 (ps[i].f1-1)-j)) b m false else spec_l09All.j2 (K+1) ps xs c i j j b m false)=spec_l09All.j2 (K+1) ps xs c i j (at_:Int) b m false:=by
      clear hih ih hpb hjw hcw hst hdr
      by_cases e:ps[i].f2=true
      · rw[if_pos e]at hat ⊢
        rw[hn,w64 (x:=(n:Int)-1) (by omega) (by omega),w64 (by omega) (by omega),show(n:Int)-1-(j:Int)=(at_:Int)by omega]
      · rw[if_neg e]at hat ⊢
        rw[hat]
    have hln:(j:Int)<ps[i].f1:=by rw[hn];omega
    have hls:=last_step xs c _ hbd hc _ rfl
    obtain⟨b1,b2,_⟩:=clean_base xs c hc
    have hlen:=hc.1
    rw[show k+2*(d+1)=(K+1)+1 by omega,spec_l09All.l1,if_pos (by omega),if_pos (by omega),rd_Part ps i hi,if_pos hln,hatw,spec_l09All.j2,hdr,writeL_cons]
    rw[rd_Part ps i hi]
    have htm:(Int.tmod (c:Int) 8=0)=(c % 8=0):=propext (by rw[Int.tmod_eq_emod_of_nonneg (by omega)];omega)
    have hpow1:=spec_l01Pow_eq K (at_:Int) (by omega) (by omega)
    have hpow2:=spec_l01Pow_eq K (Int.tmod (c:Int) 8) (by rw[Int.tmod_eq_emod_of_nonneg (by omega)];omega) (by omega)
    by_cases e:c % 8=0
    · rw[if_pos e]at hls b1 b2
      have hlw:=Aside0.mk (show wrap64 (((xs++[0]).length:Int)-1)=((xs++[0]).length:Int)-1 from w64 (by omega) (by omega))
      rw[if_pos (htm ▸ e),if_pos (by omega),Option.bind_some,if_pos (by omega),if_pos (by omega),hpow1,Option.bind_some,if_neg (by omega),hlw.out,if_pos (by omega),if_pos (by omega),hpow2,Option.bind_some,hpb.out,hls,hcw.out,hjw.out,hK]
      exact hih
    · rw[if_neg e]at hls b1 b2
      have hlw:=Aside0.mk (show wrap64 ((xs.length:Int)-1)=(xs.length:Int)-1 from w64 (by omega) (by omega))
      rw[if_neg (htm ▸ e),if_pos (by omega),if_pos (by omega),hpow1,Option.bind_some,if_neg (by omega),hlw.out,if_pos (by omega),if_pos (by omega),hpow2,Option.bind_some,hpb.out,hls,hcw.out,hjw.out,hK]
      exact hih
def bitsA (ps:List S62):List Int:=ps.flatMap bitsP
theorem bitsA_bd (ps:List S62):∀ x∈bitsA ps,0≤x∧x≤1:=by
  intro x hx
  obtain⟨p,_,h⟩:=List.mem_flatMap.mp hx
  exact bitsV_bd _ _ _ x h
theorem bitsP_len (p:S62):(bitsP p).length=p.f1.toNat:=by unfold bitsP bitsV;rw[List.length_map,List.length_range]
def partOk (p:S62):Prop:=(0≤p.f0∧p.f0≤1000000000)∧0≤p.f1∧p.f1≤60
theorem spec_All_l0 (ps:List S62) (hps:ps.length≤1000000) (hok:∀ p∈ps,partOk p) (b:ByteArray) (m:Int) (d:Nat):∀ (k i:Nat) (xs:List Int) (c:Nat),i≤ps.length→ps.length-i=d→130*d+200≤k→Clean xs c→c≤100000000-60*d→60*d≤100000000→xs.length≤12000→
    spec_l09All.l0 k ps xs c i b m false=(if(writeL (xs,c) (bitsA (ps.drop i))).1.length≤12000 then some (strOfNums (writeL (xs,c) (bitsA (ps.drop i))).1,(((writeL (xs,c) (bitsA (ps.drop i))).2:Nat):Int),false)else some (b,m,true)):=by
  induction d with
  | zero =>
    intro k i xs c hi hd hk hc hb hb2 hl
    obtain⟨k,rfl⟩:∃ q,k=q+1:=⟨k-1,by omega⟩
    rw[List.drop_eq_nil_of_le (by omega),spec_l09All.l0,if_neg (by omega)]
    show _=if xs.length≤12000 then _ else _
    rw[if_pos hl]
    rfl
  | succ d ih =>
    intro k i xs c hi hd hk hc hb hb2 hl
    have lt:i<ps.length:=by omega
    obtain⟨hv,hn0,hn60⟩:=hok ps[i] (List.getElem_mem lt)
    obtain⟨n,hn⟩:=Int.eq_ofNat_of_zero_le hn0
    have hdr:bitsA (ps.drop i)=bitsP ps[i]++bitsA (ps.drop (i+1)):=by rw[List.drop_eq_getElem_cons lt];exact List.flatMap_cons ..
    have hbl:(bitsP ps[i]).length=n:=by rw[bitsP_len,hn,Int.toNat_natCast]
    have hsnd:=writeL_snd (bitsP ps[i]) (xs,c)
    have hcl:=writeL_clean (bitsP ps[i]) (bitsV_bd _ _ _) (xs,c) hc
    obtain⟨k,rfl⟩:∃ q,k=q+2*n+1:=⟨k-2*n-1,by omega⟩
    have hbits:=spec_All_bits ps hps i lt hv n hn (by omega) b m n k 0 xs c (by omega) (by omega) (by omega) hc (by omega)
    rw[List.drop_zero]at hbits
    rw[spec_l09All.l0,if_pos (by omega)]
    refine Eq.trans hbits ?_
    rw[hdr,writeL_app]
    rw[hbl]at hsnd
    try dsimp only at hsnd
    generalize hZ:writeL (xs,c) (bitsP ps[i])=Z at hcl hsnd ⊢
    obtain⟨k,rfl⟩:∃ q,k=q+1:=⟨k-1,by omega⟩
    rw[spec_l09All.l1,if_pos (by omega),if_pos (by omega),rd_Part ps i lt,if_neg (by rw[hn];omega)]
    by_cases e:Z.1.length>12000
    · rw[if_pos (by omega)]
      have hmono:=writeL_clean (bitsA (ps.drop (i+1))) (bitsA_bd _) Z hcl
      have hs2:=writeL_snd (bitsA (ps.drop (i+1))) Z
      rw[if_neg]
      intro h
      have h1:=hmono.1
      have h2:=hcl.1
      omega
    · rw[if_neg (by omega)]
      have hih:=ih k (i+1) Z.1 Z.2 (by omega) (by omega) (by omega) hcl (by omega) (by omega) (by omega)
      have ew:wrap64 ((i:Int)+1)=((i+1:Nat):Int):=(w64 (x:=(i:Int)+1) (by omega) (by omega)).trans (by omega)
      rw[ew]
      exact hih
def outB (s:ByteArray) (n:Int):Bool:=decide (0≤n∧n≤96000∧(n+7) / 8=(s.size:Int)) && (decide (n % 8=0) || decide (bt s ((s.size:Int)-1)<p2 (n % 8)))
theorem bt_bd (s:ByteArray) (i:Int):0≤bt s i∧bt s i≤255:=by have:=bt_range s i;omega
theorem spec_OutOk_eq (s:ByteArray) (n:Int) (hs:s.size≤1048576) (k:Nat) (hk:64≤k):spec_OutOk.f k s n=some (outB s n):=by
  unfold spec_OutOk.f
  by_cases h1:(s.size:Int)>12000
  · have:¬(0≤n∧n≤96000∧(n+7) / 8=(s.size:Int)):=by omega
    rw[if_pos h1,outB,decide_eq_false this,Bool.false_and]
  · rw[if_neg h1]
    by_cases h2:n<0
    · have:¬(0≤n∧n≤96000∧(n+7) / 8=(s.size:Int)):=by omega
      rw[if_pos h2,outB,decide_eq_false this,Bool.false_and]
    · rw[if_neg h2,w64 (x:=8*(s.size:Int)) (by omega) (by omega)]
      by_cases h3:n>8*(s.size:Int)
      · have:¬(0≤n∧n≤96000∧(n+7) / 8=(s.size:Int)):=by omega
        rw[if_pos h3,outB,decide_eq_false this,Bool.false_and]
      · rw[if_neg h3,w64 (x:=n+7) (by omega) (by omega),Int.tdiv_eq_ediv_of_nonneg (by omega),w64 (x:=(n+7) / 8) (by omega) (by omega)]
        by_cases h4:(n+7) / 8=(s.size:Int)
        · have h5:(0≤n∧n≤96000∧(n+7) / 8=(s.size:Int)):=by omega
          rw[if_pos h4,outB,decide_eq_true h5,Bool.true_and,Int.tmod_eq_emod_of_nonneg (by omega)]
          by_cases h6:n % 8=0
          · rw[if_pos h6,decide_eq_true h6,Bool.true_or]
          · have hb:=bt_bd s ((s.size:Int)-1)
            rw[if_neg h6,decide_eq_false h6,Bool.false_or,w64 (x:=(s.size:Int)-1) (by omega) (by omega),if_pos (by omega),if_pos (by omega),spec_l01Pow_eq k (n % 8) (by omega) hk,Option.bind_some,w64 (by omega) (by omega)]
        · have:¬(0≤n∧n≤96000∧(n+7) / 8=(s.size:Int)):=fun h=>h4 h.2.2
          rw[if_neg h4,outB,decide_eq_false this,Bool.false_and]
theorem impl_OutOk_eq (s:ByteArray) (n:Int) (hs:s.size≤1048576):impl_OutOk.f s n=some (outB s n):=by
  unfold impl_OutOk.f
  rw[impl_within_eq,Option.bind_some]
  by_cases h1:0≤n∧n≤96000
  · rw[decide_eq_true h1.1,decide_eq_true h1.2,Bool.true_and,if_pos rfl,impl_up.f,Option.bind_some,w64 (x:=n+7) (by omega) (by omega),Int.tdiv_eq_ediv_of_nonneg (by omega),w64 (x:=(n+7) / 8) (by omega) (by omega)]
    by_cases h4:(s.size:Int)=(n+7) / 8
    · have h5:(0≤n∧n≤96000∧(n+7) / 8=(s.size:Int)):=by omega
      rw[if_pos h4,outB,decide_eq_true h5,Bool.true_and,Int.tmod_eq_emod_of_nonneg (by omega)]
      by_cases h6:n % 8=0
      · rw[if_pos h6,decide_eq_true h6,Bool.true_or]
      · have hb:=bt_bd s ((s.size:Int)-1)
        obtain⟨m,hm⟩:=Int.eq_ofNat_of_zero_le (show 0≤n % 8 by omega)
        have hp:=pow_small m (by omega)
        rw[if_neg h6,decide_eq_false h6,Bool.false_or,w64 (x:=(s.size:Int)-1) (by omega) (by omega),if_pos (by omega),if_pos (by omega),if_pos (by omega),hm]
        have e1:shr .u8 (bt s ((s.size:Int)-1)) (m:Int)=bt s ((s.size:Int)-1) / 2 ^ m:=by
          unfold shr
          rw[show min (m:Int).toNat IntKind.u8.bits=m by simp[IntKind.bits];omega]
        have e2:p2 (m:Int)=2 ^ m:=by unfold p2;rw[Int.toNat_natCast]
        rw[e1,e2]
        generalize bt s ((s.size:Int)-1)=x at hb ⊢
        generalize (2:Int) ^ m=z at hp ⊢
        have e3:(x / z == 0)=decide (x<z):=by
          by_cases h:x<z
          · rw[decide_eq_true h,Int.ediv_eq_zero_of_lt hb.1 h];rfl
          · rw[decide_eq_false h]
            have h9:1≤x / z:=(Int.le_ediv_iff_mul_le (by omega)).mpr (by omega)
            exact beq_eq_false_iff_ne.mpr (by omega)
        rw[e3]
    · have:¬(0≤n∧n≤96000∧(n+7) / 8=(s.size:Int)):=fun h=>h4 h.2.2.symm
      rw[if_neg h4,outB,decide_eq_false this,Bool.false_and]
  · have h2:¬(0≤n∧n≤96000∧(n+7) / 8=(s.size:Int)):=fun h=>h1 ⟨h.1,h.2.1⟩
    have h3:(decide (0≤n) && decide (n≤96000))=false:=by
      cases ha:decide (0≤n)
      · rfl
      · rw[Bool.true_and,decide_eq_false (fun h=>h1 ⟨of_decide_eq_true ha,h⟩)]
    rw[h3,if_neg (by decide),outB,decide_eq_false h2,Bool.false_and]
theorem str_bytes (s:ByteArray):strOfNums (bytesOf s)=s:=by
  obtain⟨d⟩:=s
  simp only[strOfNums,bytesOf,List.map_map]
  congr 1
  apply Array.ext'
  simp only[List.toList_toArray]
  rw[List.map_congr_left (g:=id) (fun b _=>by simp[Function.comp])]
  simp
theorem outB_clean (s:ByteArray) (n:Int) (h:outB s n=true):0≤n∧n≤96000∧Clean (bytesOf s) n.toNat:=by
  unfold outB at h
  rw[Bool.and_eq_true,decide_eq_true_eq,Bool.or_eq_true,decide_eq_true_eq,decide_eq_true_eq]at h
  obtain⟨⟨h1,h2,h3⟩,h4⟩:=h
  have hl:=bytesOf_length s
  refine⟨h1,h2,by rw[hl];omega,fun x hx=>?_,fun hc=>?_⟩
  · obtain⟨b,_,rfl⟩:=List.mem_map.mp hx
    have:=b.toNat_lt
    omega
  · rcases h4 with h4|h4
    · omega
    · rw[hl,rd_bytesOf]
      have e2:p2 (n % 8)=2 ^ (n.toNat % 8):=by unfold p2;rw[show(n % 8).toNat=n.toNat % 8 by omega]
      rw[e2]at h4
      rwa [show((s.size-1:Nat):Int)=(s.size:Int)-1 by omega]
theorem clean_outB (xs:List Int) (c:Nat) (h:Clean xs c) (hc:c≤90000000):outB (strOfNums xs) c=decide (c≤96000):=by
  have h1:=h.1
  have hb:=bytesOf_str xs h.2.1
  unfold outB
  rw[size_str]
  by_cases e:c≤96000
  · rw[decide_eq_true (show 0≤(c:Int)∧(c:Int)≤96000∧((c:Int)+7) / 8=(xs.length:Int)by omega),decide_eq_true e,Bool.true_and]
    by_cases e8:c % 8=0
    · rw[decide_eq_true (show(c:Int) % 8=0 by omega),Bool.true_or]
    · have h3:=h.2.2 e8
      have e2:p2 ((c:Int) % 8)=2 ^ (c % 8):=by unfold p2;rw[show((c:Int) % 8).toNat=c % 8 by omega]
      rw[← rd_bytesOf,hb,e2,decide_eq_true (show rd xs ((xs.length:Int)-1)<2 ^ (c % 8)by rwa [show(xs.length:Int)-1=((xs.length-1:Nat):Int)by omega]),Bool.or_true]
  · rw[decide_eq_false (show ¬(0≤(c:Int)∧(c:Int)≤96000∧((c:Int)+7) / 8=(xs.length:Int))by omega),decide_eq_false e,Bool.false_and]
theorem spec_Put_l0 (v:Int) (hv:0≤v∧v≤1000000000) (n:Nat) (hn:n≤60) (d:Nat):∀ (k i:Nat) (xs:List Int) (c:Nat),i≤n→n-i=d→d+70≤k→Clean xs c→c+d≤1000000000→
    spec_l01Put.l0 k v ((List.range n).map fun(j:Nat)=>(j:Int)) xs c i=some (strOfNums (writeL (xs,c) ((bitsV v n false).drop i)).1,(((writeL (xs,c) ((bitsV v n false).drop i)).2:Nat):Int)):=by
  have hlq:((List.range n).map fun(j:Nat)=>(j:Int)).length=n:=by rw[List.length_map,List.length_range]
  induction d with
  | zero =>
    intro k i xs c hi hd hk hc hb
    obtain⟨k,rfl⟩:∃ q,k=q+1:=⟨k-1,by omega⟩
    rw[spec_l01Put.l0,if_neg (by omega),List.drop_eq_nil_of_le (by unfold bitsV;rw[List.length_map,List.length_range];omega)]
    rfl
  | succ d ih =>
    intro k i xs c hi hd hk hc hb
    obtain⟨k,rfl⟩:∃ q,k=q+1:=⟨k-1,by omega⟩
    have hbd:0≤v / 2 ^ i % 2∧v / 2 ^ i % 2≤1:=by omega
    have hst:=stepW_clean xs c _ hbd hc
    have hdr:(bitsV v n false).drop i=(v / 2 ^ i % 2) :: (bitsV v n false).drop (i+1):=by
      unfold bitsV
      rw[range_drop n i (by omega)]
      rfl
    have hih:=ih k (i+1) (stepW (xs,c) (v / 2 ^ i % 2)).1 (c+1) (by omega) (by omega) (by omega) hst (by omega)
    have hpb:=Aside0.mk (put_bit v hv i c (by omega))
    have hpc:=p2_pos (i:Int)
    have hjw:=Aside0.mk (show wrap64 ((i:Int)+1)=((i+1:Nat):Int)from(w64 (x:=(i:Int)+1) (by omega) (by omega)).trans (by omega))
    have hcw:=Aside0.mk (show wrap64 ((c:Int)+1)=((c+1:Nat):Int)from(w64 (x:=(c:Int)+1) (by omega) (by omega)).trans (by omega))
    have hls:=last_step xs c _ hbd hc _ rfl
    obtain⟨b1,b2,_⟩:=clean_base xs c hc
    have hlen:=hc.1
    have hrq:rd ((List.range n).map fun(j:Nat)=>(j:Int)) (i:Int)=(i:Int):=by
      rw[rd_at _ i (by omega),List.getElem_map,List.getElem_range]
    have htm:(Int.tmod (c:Int) 8=0)=(c % 8=0):=propext (by rw[Int.tmod_eq_emod_of_nonneg (by omega)];omega)
    have hpow1:=spec_l01Pow_eq k (i:Int) (by omega) (by omega)
    have hpow2:=spec_l01Pow_eq k (Int.tmod (c:Int) 8) (by rw[Int.tmod_eq_emod_of_nonneg (by omega)];omega) (by omega)
    rw[hdr,writeL_cons,spec_l01Put.l0,if_pos (by omega),hrq]
    by_cases e:c % 8=0
    · rw[if_pos e]at hls b1 b2
      have hlw:=Aside0.mk (show wrap64 (((xs++[0]).length:Int)-1)=((xs++[0]).length:Int)-1 from w64 (by omega) (by omega))
      rw[if_pos (htm ▸ e),if_pos (by omega),Option.bind_some,if_pos (by omega),hpow1,Option.bind_some,if_neg (by omega),hlw.out,if_pos (by omega),if_pos (by omega),hpow2,Option.bind_some,hpb.out,hls,hcw.out,hjw.out]
      exact hih
    · rw[if_neg e]at hls b1 b2
      have hlw:=Aside0.mk (show wrap64 ((xs.length:Int)-1)=(xs.length:Int)-1 from w64 (by omega) (by omega))
      rw[if_neg (htm ▸ e),if_pos (by omega),hpow1,Option.bind_some,if_neg (by omega),hlw.out,if_pos (by omega),if_pos (by omega),hpow2,Option.bind_some,hpb.out,hls,hcw.out,hjw.out]
      exact hih
theorem range_snoc (i:Nat):(List.range (i+1)).map (fun(j:Nat)=>(j:Int))=(List.range i).map (fun(j:Nat)=>(j:Int))++[(i:Int)]:=by
  rw[List.range_succ,List.map_append]
  rfl
theorem spec_PutBits_l0 (v:Int) (n:Nat) (hn:n≤60) (s:ByteArray) (m:Int) (d:Nat):∀ (k i:Nat),i≤n→n-i=d→
    spec_PutBits.l0 (k+d+1) v n ((List.range i).map fun(j:Nat)=>(j:Int)) i s m=(spec_l01Put.f k s m v ((List.range n).map fun(j:Nat)=>(j:Int))).bind fun b=>some (b.1,b.2,true):=by
  induction d with
  | zero =>
    intro k i hi hd
    obtain rfl:i=n:=by omega
    rw[Nat.add_zero,spec_PutBits.l0,if_neg (by omega)]
  | succ d ih =>
    intro k i hi hd
    rw[show k+(d+1)+1=(k+d+1)+1 by omega,spec_PutBits.l0,if_pos (by omega),if_pos (by rw[List.length_map,List.length_range];omega),← range_snoc]
    have hjw:wrap64 ((i:Int)+1)=((i+1:Nat):Int):=(w64 (x:=(i:Int)+1) (by omega) (by omega)).trans (by omega)
    rw[hjw]
    clear hjw
    exact ih k (i+1) (by omega) (by omega)
theorem spec_PutBits_eq (xs:List Int) (c:Nat) (h:Clean xs c) (hc:c≤1000000) (v:Int) (n:Nat) (hn:n≤15) (hv:0≤v∧v≤p2 n-1) (k:Nat) (hk:300≤k) :
    spec_PutBits.f k (strOfNums xs) c v n=some (if c+n≤96000 then(strOfNums (writeL (xs,c) (bitsV v n false)).1,(((writeL (xs,c) (bitsV v n false)).2:Nat):Int),true)else((⟨#[]⟩:ByteArray),0,false)):=by
  have hp:p2 (n:Int)≤65536:=p2_16 (by omega)
  have hp1:=p2_pos (n:Int)
  have h1:=h.1
  have hm:spec_l01May.f k (strOfNums xs) c v n=some (decide (c+n≤96000)):=by
    unfold spec_l01May.f
    rw[spec_OutOk_eq _ _ (by rw[size_str];omega) k (by omega),Option.bind_some,clean_outB xs c h (by omega)]
    by_cases e:c≤96000
    · rw[decide_eq_true e,if_pos rfl,spec_l01In_eq,Option.bind_some,decide_eq_true (show(0:Int)≤(n:Int)by omega),decide_eq_true (show(n:Int)≤24 by omega),Bool.and_true,if_pos rfl,spec_l01Pow_eq k n (by omega) (by omega),Option.bind_some,spec_l01In_eq,Option.bind_some,w64 (x:=p2 (n:Int)-1) (by omega) (by omega),decide_eq_true hv.1,decide_eq_true hv.2,Bool.and_true,if_pos rfl,w64 (by omega) (by omega)]
      congr 1
      by_cases e2:c+n≤96000
      · rw[decide_eq_true e2,decide_eq_true (by omega)]
      · rw[decide_eq_false e2,decide_eq_false (by omega)]
    · rw[decide_eq_false e,if_neg (by decide),decide_eq_false (by omega)]
  unfold spec_PutBits.f
  rw[hm,Option.bind_some]
  by_cases e:c+n≤96000
  · rw[decide_eq_true e,if_pos rfl,if_pos e]
    obtain⟨k,rfl⟩:∃ q,k=q+n+1:=⟨k-n-1,by omega⟩
    have hl:=spec_PutBits_l0 v n (by omega) (strOfNums xs) c n k 0 (by omega) (by omega)
    refine Eq.trans hl ?_
    unfold spec_l01Put.f
    rw[size_str,if_pos (by omega),bytesOf_str xs h.2.1]
    have hp:=spec_Put_l0 v ⟨hv.1,by omega⟩ n (by omega) n k 0 xs c (by omega) (by omega) (by omega) h (by omega)
    rw[List.drop_zero]at hp
    have hp':spec_l01Put.l0 k v ((List.range n).map fun(j:Nat)=>(j:Int)) xs c 0=_:=hp
    rw[hp',Option.bind_some]
  · rw[decide_eq_false e,if_neg (by decide),if_neg e]
def flagV (f:Bool):Int:=if f=true then 1 else 0
def headB (f:Bool):List Int:=bitsV (flagV f) 1 false++bitsV 2 2 false
theorem spec_l09Put_bad (k:Nat) (s:ByteArray) (n v m:Int) (h:Bool):spec_l09Put.f k s n true v m h=some (s,n,true):=by
  unfold spec_l09Put.f
  rw[if_pos rfl]
theorem spec_l09Put_ok (xs:List Int) (c:Nat) (h:Clean xs c) (hc:c≤1000000) (v:Int) (n:Nat) (hn:n≤15) (hv:0≤v∧v≤p2 n-1) (k:Nat) (hk:300≤k) :
    spec_l09Put.f k (strOfNums xs) c false v n false=some (if c+n≤96000 then(strOfNums (writeL (xs,c) (bitsV v n false)).1,(((writeL (xs,c) (bitsV v n false)).2:Nat):Int),false)else(strOfNums xs,(c:Int),true)):=by
  unfold spec_l09Put.f
  rw[if_neg (by decide),if_neg (by decide),spec_PutBits_eq xs c h hc v n hn hv k hk,Option.bind_some]
  by_cases e:c+n≤96000
  · rw[if_pos e,if_pos e,if_pos rfl];rfl
  · rw[if_neg e,if_neg e,if_neg (by decide)];rfl
theorem headB_len (f:Bool):(headB f).length=3:=by cases f <;> decide
theorem headB_bd (f:Bool):∀ x∈headB f,0≤x∧x≤1:=by
  intro x hx
  rcases List.mem_append.mp hx with h|h <;> exact bitsV_bd _ _ _ x h
theorem spec_Head_eq (s:ByteArray) (n:Int) (hs:s.size≤1048576) (f:Bool) (k:Nat) (hk:300≤k) :
    (outB s n=true∧n+3≤96000→spec_l09Head.f k s n 2 f=some (strOfNums (writeL (bytesOf s,n.toNat) (headB f)).1,(((writeL (bytesOf s,n.toNat) (headB f)).2:Nat):Int),false))∧
    (¬(outB s n=true∧n+3≤96000)→∃ b m,spec_l09Head.f k s n 2 f=some (b,m,true)):=by
  have hunf:spec_l09Head.f k s n 2 f=(spec_l09Put.f k s n (!outB s n) (flagV f) 1 false).bind fun b=>(spec_l09Put.f k b.1 b.2.1 b.2.2 2 2 false).bind fun c=>some (c.1,c.2.1,c.2.2):=by
    unfold spec_l09Head.f
    rw[spec_OutOk_eq s n hs k (by omega),Option.bind_some]
    cases f <;> rfl
  rw[hunf]
  have p1:p2 ((1:Nat):Int)=2:=by decide
  have p22:p2 ((2:Nat):Int)=4:=by decide
  have hfl:0≤flagV f∧flagV f≤1:=by cases f <;> decide
  cases ho:outB s n with
  | false =>
    refine⟨fun h=>absurd h.1 (by decide),fun _=>⟨s,n,?_⟩⟩
    rw[Bool.not_false,spec_l09Put_bad,Option.bind_some,spec_l09Put_bad]
    rfl
  | true =>
    obtain⟨h0,h1,hcl⟩:=outB_clean s n ho
    obtain⟨c,rfl⟩:=Int.eq_ofNat_of_zero_le h0
    rw[Int.toNat_natCast]at hcl ⊢
    have hp:=spec_l09Put_ok (bytesOf s) c hcl (by omega) (flagV f) 1 (by omega) ⟨hfl.1,by omega⟩ k hk
    rw[str_bytes]at hp
    rw[Bool.not_true,show(1:Int)=((1:Nat):Int)from rfl,hp,Option.bind_some]
    by_cases e1:c+1≤96000
    · rw[if_pos e1]
      have hcl1:=writeL_clean (bitsV (flagV f) 1 false) (bitsV_bd _ _ _) (bytesOf s,c) hcl
      have hsn:=writeL_snd (bitsV (flagV f) 1 false) (bytesOf s,c)
      have hl1:(bitsV (flagV f) 1 false).length=1:=by unfold bitsV;rw[List.length_map,List.length_range]
      rw[hl1]at hsn
      have hsn':(writeL (bytesOf s,c) (bitsV (flagV f) 1 false)).2=c+1:=hsn
      unfold headB
      rw[writeL_app]
      generalize writeL (bytesOf s,c) (bitsV (flagV f) 1 false)=Z at hcl1 hsn' ⊢
      have hp2:=spec_l09Put_ok Z.1 Z.2 hcl1 (by omega) 2 2 (by omega) ⟨by omega,by omega⟩ k hk
      dsimp only
      rw[show((2:Nat):Int)=2 from rfl]at hp2
      rw[hp2,Option.bind_some]
      by_cases e2:Z.2+2≤96000
      · rw[if_pos e2]
        exact⟨fun _=>rfl,fun h=>absurd ⟨rfl,by omega⟩ h⟩
      · rw[if_neg e2]
        exact⟨fun h=>by omega,fun _=>⟨_,_,rfl⟩⟩
    · rw[if_neg e1]
      dsimp only
      rw[spec_l09Put_bad,Option.bind_some]
      exact⟨fun h=>by omega,fun _=>⟨_,_,rfl⟩⟩
theorem impl_Head_eq (xs:List Int) (c:Nat) (h:Clean xs c) (hc:c≤1000000) (f:Bool) (k:Nat) (hk:61≤k):impl_writer_head.f k (strOfNums xs) c f 2=some (strOfNums (writeL (xs,c) (headB f)).1,(((writeL (xs,c) (headB f)).2:Nat):Int)):=by
  have hfl:0≤flagV f∧flagV f≤1:=by cases f <;> decide
  have hf:impl_flag.f f=some (flagV f):=by cases f <;> rfl
  unfold impl_writer_head.f
  have h1:=impl_bits_eq xs c h (by omega) (flagV f) ⟨hfl.1,by omega⟩ 1 (by omega) k hk
  rw[show((1:Nat):Int)=1 from rfl]at h1
  have hcl1:=writeL_clean (bitsV (flagV f) 1 false) (bitsV_bd _ _ _) (xs,c) h
  have hsn:=writeL_snd (bitsV (flagV f) 1 false) (xs,c)
  have hl1:(bitsV (flagV f) 1 false).length=1:=by unfold bitsV;rw[List.length_map,List.length_range]
  rw[hl1]at hsn
  have hsn':(writeL (xs,c) (bitsV (flagV f) 1 false)).2=c+1:=hsn
  rw[hf,Option.bind_some,h1,Option.bind_some]
  unfold headB
  rw[writeL_app]
  generalize writeL (xs,c) (bitsV (flagV f) 1 false)=Z at hcl1 hsn' ⊢
  have h2:=impl_bits_eq Z.1 Z.2 hcl1 (by omega) 2 (by omega) 2 (by omega) k hk
  rw[show((2:Nat):Int)=2 from rfl]at h2
  dsimp only
  rw[h2,Option.bind_some]
def Has (cs ls:List Int) (s:Int):Prop:=0≤s∧s<cs.length∧s<ls.length∧(0≤rd cs s∧rd cs s≤1000000000)∧(0≤rd ls s∧rd ls s≤15)
def partT (x8 x9 c8 c9:List Int) (t:S70):List S62 :=
  if t.f1=0 then[⟨rd c8 t.f0,rd x8 t.f0,true⟩]
  else[⟨rd c8 (lencT t.f1).1,rd x8 (lencT t.f1).1,true⟩,⟨(lencT t.f1).2.2,(lencT t.f1).2.1,false⟩,⟨rd c9 (distT t.f2).1,rd x9 (distT t.f2).1,true⟩,⟨(distT t.f2).2.2,(distT t.f2).2.1,false⟩]
def Fits (x8 x9 c8 c9:List Int) (t:S70):Prop :=
  (t.f1=0→Has c8 x8 t.f0)∧(¬t.f1=0→(3≤t.f1∧t.f1≤258)∧(1≤t.f2∧t.f2≤32768)∧Has c8 x8 (lencT t.f1).1∧Has c9 x9 (distT t.f2).1)
def endP (x8 c8:List Int):S62:=⟨rd c8 256,rd x8 256,true⟩
theorem spec_Body_l0 (ts:List S70) (hx:ts.length≤12000) (x8 x9 c8 c9:List Int) (hf:∀ t∈ts,Fits x8 x9 c8 c9 t) (he:Has c8 x8 256) (d:Nat):∀ (k i:Nat) (acc:List S62),i≤ts.length→ts.length-i=d→d+300≤k→acc.length≤1000000+4*i→
    spec_l09Body.l0 k ts x8 x9 c8 c9 acc i=some (acc++((ts.drop i).flatMap (partT x8 x9 c8 c9)++[endP x8 c8])):=by
  induction d with
  | zero =>
    intro k i acc hi hd hk ha
    obtain⟨k,rfl⟩:∃ q,k=q+1:=⟨k-1,by omega⟩
    obtain⟨e1,e2,e3,_⟩:=he
    rw[spec_l09Body.l0,if_neg (by omega),if_pos e2,if_pos e3,if_pos (by omega),List.drop_eq_nil_of_le (by omega)]
    rfl
  | succ d ih =>
    intro k i acc hi hd hk ha
    obtain⟨k,rfl⟩:∃ q,k=q+1:=⟨k-1,by omega⟩
    have lt:i<ts.length:=by omega
    obtain⟨f1,f2⟩:=hf ts[i] (List.getElem_mem lt)
    have hdr:(ts.drop i).flatMap (partT x8 x9 c8 c9)=partT x8 x9 c8 c9 ts[i]++(ts.drop (i+1)).flatMap (partT x8 x9 c8 c9):=by rw[List.drop_eq_getElem_cons lt];exact List.flatMap_cons ..
    rw[hdr,spec_l09Body.l0,if_pos (by omega),if_pos (by omega),rd_Token ts i lt]
    have ew:=Aside0.mk (show wrap64 ((i:Int)+1)=((i+1:Nat):Int)from(w64 (x:=(i:Int)+1) (by omega) (by omega)).trans (by omega))
    unfold partT
    by_cases e:ts[i].f1=0
    · obtain⟨a1,a2,a3,_⟩:=f1 e
      have hih:=ih k (i+1) (acc++[⟨rd c8 ts[i].f0,rd x8 ts[i].f0,true⟩]) (by omega) (by omega) (by omega) (by rw[List.length_append,List.length_singleton];omega)
      rw[if_pos e,if_pos e,if_pos a1,if_pos a2,if_pos a3,if_pos (by omega),ew.out,hih]
      simp only[List.append_assoc]
      rfl
    · obtain⟨b1,b2,⟨a1,a2,a3,_⟩,⟨g1,g2,g3,_⟩⟩:=f2 e
      have hlc:=(lencT_ok ts[i].f1 b1).1 k (by omega)
      have hdc:=spec_DistCode_eq ts[i].f2 b2 k (by omega)
      have hih:=ih k (i+1) (acc++[⟨rd c8 (lencT ts[i].f1).1,rd x8 (lencT ts[i].f1).1,true⟩,⟨(lencT ts[i].f1).2.2,(lencT ts[i].f1).2.1,false⟩,⟨rd c9 (distT ts[i].f2).1,rd x9 (distT ts[i].f2).1,true⟩,⟨(distT ts[i].f2).2.2,(distT ts[i].f2).2.1,false⟩]) (by omega) (by omega) (by omega) (by rw[List.length_append];simp only[List.length_cons,List.length_nil];omega)
      rw[if_neg e,if_neg e,hlc.2,Option.bind_some,hdc,Option.bind_some,if_pos a1,if_pos a2,if_pos a3,if_pos g1,if_pos g2,if_pos g3,Option.bind_some,if_pos (by simp only[List.length_cons,List.length_nil];omega),ew.out,hih]
      simp only[List.append_assoc]
      rfl
theorem bitsA_cons (p:S62) (ps:List S62):bitsA (p :: ps)=bitsP p++bitsA ps:=List.flatMap_cons ..
theorem bitsA_app (ps qs:List S62):bitsA (ps++qs)=bitsA ps++bitsA qs:=List.flatMap_append ..
theorem sym_step (xs:List Int) (c:Nat) (h:Clean xs c) (hc:c≤900000000) (cs ls:List Int) (s:Int) (hs:Has cs ls s) (k:Nat) (hk:61≤k) :
    impl_writer_symbol.f k (strOfNums xs) c cs ls s=some (strOfNums (writeL (xs,c) (bitsP ⟨rd cs s,rd ls s,true⟩)).1,(((writeL (xs,c) (bitsP ⟨rd cs s,rd ls s,true⟩)).2:Nat):Int))∧Clean (writeL (xs,c) (bitsP ⟨rd cs s,rd ls s,true⟩)).1 (writeL (xs,c) (bitsP ⟨rd cs s,rd ls s,true⟩)).2∧(writeL (xs,c) (bitsP ⟨rd cs s,rd ls s,true⟩)).2≤c+15:=by
  obtain⟨a1,a2,a3,a4,a5⟩:=hs
  refine⟨impl_symbol_eq xs c h hc cs ls s ⟨a1,a2,a3⟩ a4 ⟨a5.1,by omega⟩ k hk,writeL_clean _ (bitsV_bd _ _ _) (xs,c) h,?_⟩
  rw[writeL_snd,bitsP_len]
  dsimp only
  omega
theorem bits_step (xs:List Int) (c:Nat) (h:Clean xs c) (hc:c≤900000000) (v n:Int) (hv:0≤v∧v≤1000000000) (hn:0≤n∧n≤15) (k:Nat) (hk:61≤k) :
    impl_writer_bits.f k (strOfNums xs) c v n=some (strOfNums (writeL (xs,c) (bitsP ⟨v,n,false⟩)).1,(((writeL (xs,c) (bitsP ⟨v,n,false⟩)).2:Nat):Int))∧Clean (writeL (xs,c) (bitsP ⟨v,n,false⟩)).1 (writeL (xs,c) (bitsP ⟨v,n,false⟩)).2∧(writeL (xs,c) (bitsP ⟨v,n,false⟩)).2≤c+15:=by
  have:=impl_bits_eq xs c h hc v hv n.toNat (by omega) k hk
  rw[Int.toNat_of_nonneg hn.1]at this
  refine⟨this,writeL_clean _ (bitsV_bd _ _ _) (xs,c) h,?_⟩
  rw[writeL_snd,bitsP_len]
  dsimp only
  omega
theorem impl_tokens_l0 (ts:List S70) (hx:ts.length≤12000) (x8 x9 c8 c9:List Int) (hf:∀ t∈ts,Fits x8 x9 c8 c9 t) (he:Has c8 x8 256) (d:Nat):∀ (k i:Nat) (xs:List Int) (c:Nat),i≤ts.length→ts.length-i=d→d+300≤k→Clean xs c→c+60*d≤800000000→
    impl_writer_tokens.l0 k x8 x9 c8 c9 ts ts.length i (strOfNums xs) c=some (strOfNums (writeL (xs,c) (bitsA ((ts.drop i).flatMap (partT x8 x9 c8 c9)++[endP x8 c8]))).1,(((writeL (xs,c) (bitsA ((ts.drop i).flatMap (partT x8 x9 c8 c9)++[endP x8 c8]))).2:Nat):Int)):=by
  induction d with
  | zero =>
    intro k i xs c hi hd hk hc hb
    obtain⟨k,rfl⟩:∃ q,k=q+1:=⟨k-1,by omega⟩
    have h1:=sym_step xs c hc (by omega) c8 x8 256 he k (by omega)
    rw[impl_writer_tokens.l0,if_neg (by omega),h1.1,Option.bind_some,List.drop_eq_nil_of_le (by omega)]
    rw[List.flatMap_nil,List.nil_append,bitsA_cons,show bitsA ([]:List S62)=[]from rfl,List.append_nil]
    rfl
  | succ d ih =>
    intro k i xs c hi hd hk hc hb
    obtain⟨k,rfl⟩:∃ q,k=q+1:=⟨k-1,by omega⟩
    have lt:i<ts.length:=by omega
    obtain⟨f1,f2⟩:=hf ts[i] (List.getElem_mem lt)
    have hdr:(ts.drop i).flatMap (partT x8 x9 c8 c9)=partT x8 x9 c8 c9 ts[i]++(ts.drop (i+1)).flatMap (partT x8 x9 c8 c9):=by rw[List.drop_eq_getElem_cons lt];exact List.flatMap_cons ..
    rw[hdr,impl_writer_tokens.l0,if_pos (by omega),if_pos (by omega),if_pos (by omega),rd_Token ts i lt]
    have ew:=Aside0.mk (show wrap64 ((i:Int)+1)=((i+1:Nat):Int)from(w64 (x:=(i:Int)+1) (by omega) (by omega)).trans (by omega))
    unfold partT
    by_cases e:ts[i].f1=0
    · obtain⟨s1,s2,s3⟩:=sym_step xs c hc (by omega) c8 x8 _ (f1 e) k (by omega)
      rw[if_pos e,if_pos e,s1,Option.bind_some,List.cons_append,List.nil_append,List.cons_append,bitsA_cons,writeL_app,ew.out]
      generalize writeL (xs,c) (bitsP ⟨rd c8 ts[i].f0,rd x8 ts[i].f0,true⟩)=Z at s2 s3 ⊢
      exact ih k (i+1) Z.1 Z.2 (by omega) (by omega) (by omega) s2 (by omega)
    · obtain⟨b1,b2,g1,g2⟩:=f2 e
      obtain⟨hlc,hl1,hl2,hl3,hl4,hl5,hl6⟩:=lencT_ok ts[i].f1 b1
      have hdc:=impl_DistCode_eq ts[i].f2 b2 k (by omega)
      obtain⟨hd1,hd2,hd3,hd4,hd5,hd6⟩:=distT_bd ts[i].f2 b2
      rw[if_neg e,if_neg e,(hlc k (by omega)).1,Option.bind_some]
      simp only[List.cons_append,List.nil_append,bitsA_cons,writeL_app]
      obtain⟨s1,s2,s3⟩:=sym_step xs c hc (by omega) c8 x8 _ g1 k (by omega)
      rw[s1,Option.bind_some]
      generalize writeL (xs,c) (bitsP ⟨rd c8 (lencT ts[i].f1).1,rd x8 (lencT ts[i].f1).1,true⟩)=Z at s2 s3 ⊢
      clear s1
      obtain⟨s1,s4,s5⟩:=bits_step Z.1 Z.2 s2 (by omega) (lencT ts[i].f1).2.2 (lencT ts[i].f1).2.1 ⟨hl5,by omega⟩ ⟨hl3,by omega⟩ k (by omega)
      dsimp only
      rw[s1,Option.bind_some]
      generalize writeL (Z.1,Z.2) (bitsP ⟨(lencT ts[i].f1).2.2,(lencT ts[i].f1).2.1,false⟩)=Y at s4 s5 ⊢
      clear s1
      rw[hdc,Option.bind_some]
      obtain⟨s1,s6,s7⟩:=sym_step Y.1 Y.2 s4 (by omega) c9 x9 _ g2 k (by omega)
      dsimp only
      rw[s1,Option.bind_some]
      generalize writeL (Y.1,Y.2) (bitsP ⟨rd c9 (distT ts[i].f2).1,rd x9 (distT ts[i].f2).1,true⟩)=X at s6 s7 ⊢
      clear s1
      obtain⟨s1,s8,s9⟩:=bits_step X.1 X.2 s6 (by omega) (distT ts[i].f2).2.2 (distT ts[i].f2).2.1 ⟨hd5,by omega⟩ ⟨hd3,by omega⟩ k (by omega)
      dsimp only
      rw[s1,Option.bind_some]
      generalize writeL (X.1,X.2) (bitsP ⟨(distT ts[i].f2).2.2,(distT ts[i].f2).2.1,false⟩)=V at s8 s9 ⊢
      clear s1
      rw[ew.out]
      exact ih k (i+1) V.1 V.2 (by omega) (by omega) (by omega) s8 (by omega)
def orderL:List Int:=[16,17,18,0,8,7,9,6,10,5,11,4,12,3,13,2,14,1,15]
theorem orderL_bd:∀ i:Fin 19,0≤rd orderL (i.val:Int)∧rd orderL (i.val:Int)<19:=by decide
def ordL (x15:List Int):List Int:=orderL.map fun s=>rd x15 s
theorem ordL_step (x15:List Int) (i:Nat) (h:i<19):(ordL x15).take (i+1)=(ordL x15).take i++[rd x15 (rd orderL i)]:=by
  unfold ordL
  rw[List.take_add_one,List.getElem?_map,List.getElem?_eq_getElem (show i<orderL.length from h),rd_at orderL i h]
  rfl
theorem ordL_len (x15:List Int):(ordL x15).length=19:=by unfold ordL;rw[List.length_map];rfl
theorem spec_Wov_l1 (x1:List S70) (x2:Bool) (x8 x9:List Int) (rs:List S52) (x15:List Int) (h15:x15.length=19) (b:ByteArray) (m:Int) (d:Nat):∀ (k i:Nat),i≤19→19-i=d→
    spec_WovenBlock.l1 (k+d+1) x1 x2 x8 x9 rs x15 ((ordL x15).take i) i b m=spec_WovenBlock.l1 (k+1) x1 x2 x8 x9 rs x15 (ordL x15) 19 b m:=by
  induction d with
  | zero =>
    intro k i hi hd
    obtain rfl:i=19:=by omega
    rw[List.take_of_length_le (by rw[ordL_len];omega)]
    rfl
  | succ d ih =>
    intro k i hi hd
    have ho:=orderL_bd ⟨i,by omega⟩
    dsimp only at ho
    have hih:=ih k (i+1) (by omega) (by omega)
    have hs:=ordL_step x15 i (by omega)
    rw[hs]at hih
    have htl:((ordL x15).take i).length≤19:=by rw[List.length_take,ordL_len];omega
    have ew:=Aside0.mk (show wrap64 ((i:Int)+1)=((i+1:Nat):Int)from(w64 (x:=(i:Int)+1) (by omega) (by omega)).trans (by omega))
    rw[show k+(d+1)+1=(k+d+1)+1 by omega,spec_WovenBlock.l1,if_pos (by omega),spec_l08Order.f,Option.bind_some,show([16,17,18,0,8,7,9,6,10,5,11,4,12,3,13,2,14,1,15]:List Int)=orderL from rfl,if_pos (by omega),if_pos (by show(i:Int)<((19:Nat):Int);omega),if_pos ho.1,if_pos (by omega),if_pos (by omega),ew.out]
    exact hih
def head3 (x8 x9 t:List Int):List S62:=[⟨(x8.length:Int)-257,5,false⟩,⟨(x9.length:Int)-1,5,false⟩,⟨(t.length:Int)-4,4,false⟩]
def lensP (t:List Int):List S62:=t.map fun v=>⟨v,3,false⟩
def extraV (s:Int):Int:=if s=16 then 2 else if s=17 then 3 else if s=18 then 7 else 0
theorem spec_Extra_eq (s:Int):spec_ExtraBits.f s=some (extraV s):=by
  unfold spec_ExtraBits.f extraV
  split
  · rfl
  · split
    · rfl
    · split <;> rfl
theorem impl_Extra_eq (s:Int):impl_ExtraBits.f s=some (extraV s):=by
  unfold impl_ExtraBits.f extraV
  split
  · rfl
  · split
    · rfl
    · split <;> rfl
def runP (c15 x15:List Int) (r:S52):List S62:=[⟨rd c15 r.f0,rd x15 r.f0,true⟩,⟨r.f1,extraV r.f0,false⟩]
theorem spec_Wov_l2 (x1:List S70) (x8 x9:List Int) (rs:List S52) (x15 t:List Int) (ht:t.length≤19) (b:ByteArray) (m:Int) (bad:Bool) (d:Nat):∀ (k i:Nat) (acc:List S62),i≤t.length→t.length-i=d→acc.length≤10+i→
    spec_WovenBlock.l2 (k+d+1) x1 x8 x9 rs x15 t acc i b m bad=(spec_CodesOf.f k x15).bind fun z=>spec_WovenBlock.l3 k x1 x8 x9 rs x15 (acc++lensP (t.drop i)) z.1 0 b m bad:=by
  induction d with
  | zero =>
    intro k i acc hi hd ha
    rw[Nat.add_zero,spec_WovenBlock.l2,if_neg (by omega),List.drop_eq_nil_of_le (by omega)]
    show _=(spec_CodesOf.f k x15).bind fun z=>spec_WovenBlock.l3 k x1 x8 x9 rs x15 (acc++[]) z.1 0 b m bad
    rw[List.append_nil]
  | succ d ih =>
    intro k i acc hi hd ha
    have lt:i<t.length:=by omega
    have hih:=ih k (i+1) (acc++[⟨t[i],3,false⟩]) (by omega) (by omega) (by rw[List.length_append,List.length_singleton];omega)
    have hdr:lensP (t.drop i)=⟨t[i],3,false⟩ :: lensP (t.drop (i+1)):=by rw[List.drop_eq_getElem_cons lt];rfl
    have ew:=Aside0.mk (show wrap64 ((i:Int)+1)=((i+1:Nat):Int)from(w64 (x:=(i:Int)+1) (by omega) (by omega)).trans (by omega))
    rw[show k+(d+1)+1=(k+d+1)+1 by omega,spec_WovenBlock.l2,if_pos (by omega),if_pos (by omega),if_pos (by omega),rd_at t i lt,ew.out,hih,hdr]
    simp only[List.append_assoc,List.singleton_append]
theorem spec_Wov_l3 (x1:List S70) (x8 x9:List Int) (rs:List S52) (hr:rs.length≤1000) (x15 c15:List Int) (hf:∀ r∈rs,Has c15 x15 r.f0) (b:ByteArray) (m:Int) (bad:Bool) (d:Nat):∀ (k i:Nat) (acc:List S62),i≤rs.length→rs.length-i=d→acc.length≤100+2*i→
    spec_WovenBlock.l3 (k+d+1) x1 x8 x9 rs x15 acc c15 i b m bad=spec_WovenBlock.l3 (k+1) x1 x8 x9 rs x15 (acc++(rs.drop i).flatMap (runP c15 x15)) c15 rs.length b m bad:=by
  induction d with
  | zero =>
    intro k i acc hi hd ha
    obtain rfl:i=rs.length:=by omega
    rw[List.drop_length,List.flatMap_nil,List.append_nil]
  | succ d ih =>
    intro k i acc hi hd ha
    have lt:i<rs.length:=by omega
    obtain⟨a1,a2,a3,_⟩:=hf rs[i] (List.getElem_mem lt)
    have hih:=ih k (i+1) (acc++runP c15 x15 rs[i]) (by omega) (by omega) (by rw[List.length_append];unfold runP;simp only[List.length_cons,List.length_nil];omega)
    have hdr:(rs.drop i).flatMap (runP c15 x15)=runP c15 x15 rs[i]++(rs.drop (i+1)).flatMap (runP c15 x15):=by rw[List.drop_eq_getElem_cons lt];exact List.flatMap_cons ..
    have ew:=Aside0.mk (show wrap64 ((i:Int)+1)=((i+1:Nat):Int)from(w64 (x:=(i:Int)+1) (by omega) (by omega)).trans (by omega))
    rw[show k+(d+1)+1=(k+d+1)+1 by omega,spec_WovenBlock.l3,if_pos (by omega),if_pos (by omega),rd_Run rs i lt,if_pos a1,if_pos a2,if_pos a3,spec_Extra_eq,Option.bind_some,Option.bind_some,if_pos (by simp only[List.length_cons,List.length_nil];omega),ew.out,hdr,← List.append_assoc]
    exact hih
theorem impl_Wov_l0 (x1:List S70) (x2:Bool) (x8 x9:List Int) (rs:List S52) (x13:List Int) (h13:x13.length=19) (b:ByteArray) (m:Int) (d:Nat):∀ (k i:Nat),i≤19→19-i=d→
    impl_WovenBlock.l0 (k+d+1) x1 x2 x8 x9 rs x13 ((ordL x13).take i) orderL orderL.length i b m=impl_WovenBlock.l0 (k+1) x1 x2 x8 x9 rs x13 (ordL x13) orderL orderL.length 19 b m:=by
  have hol:orderL.length=19:=rfl
  induction d with
  | zero =>
    intro k i hi hd
    obtain rfl:i=19:=by omega
    rw[List.take_of_length_le (by rw[ordL_len];omega)]
    rfl
  | succ d ih =>
    intro k i hi hd
    have ho:=orderL_bd ⟨i,by omega⟩
    dsimp only at ho
    have hih:=ih k (i+1) (by omega) (by omega)
    have hs:=ordL_step x13 i (by omega)
    rw[hs]at hih
    have htl:((ordL x13).take i).length≤19:=by rw[List.length_take,ordL_len];omega
    have ew:=Aside0.mk (show wrap64 ((i:Int)+1)=((i+1:Nat):Int)from(w64 (x:=(i:Int)+1) (by omega) (by omega)).trans (by omega))
    rw[show k+(d+1)+1=(k+d+1)+1 by omega,impl_WovenBlock.l0,if_pos (by omega),if_pos (by omega),if_pos (by omega),if_pos ho.1,if_pos (by omega),if_pos (by omega),ew.out]
    exact hih
theorem impl_Wov_l1 (x1:List S70) (x8 x9:List Int) (rs:List S52) (x13 t:List Int) (ht:t.length≤19) (hv:∀ v∈t,0≤v∧v≤15) (d:Nat):∀ (k i:Nat) (xs:List Int) (c:Nat),i≤t.length→t.length-i=d→61≤k→Clean xs c→c+15*d≤800000000→
    impl_WovenBlock.l1 (k+d+1) x1 x8 x9 rs x13 t t.length i (strOfNums xs) c=(impl_CodesOf.f x13).bind fun z=>impl_WovenBlock.l2 k x1 x8 x9 x13 z.1 rs rs.length 0 (strOfNums (writeL (xs,c) (bitsA (lensP (t.drop i)))).1) ((writeL (xs,c) (bitsA (lensP (t.drop i)))).2:Nat):=by
  induction d with
  | zero =>
    intro k i xs c hi hd hk hc hb
    rw[Nat.add_zero,impl_WovenBlock.l1,if_neg (by omega),List.drop_eq_nil_of_le (by omega)]
    rfl
  | succ d ih =>
    intro k i xs c hi hd hk hc hb
    have lt:i<t.length:=by omega
    have hvi:=hv t[i] (List.getElem_mem lt)
    obtain⟨s1,s2,s3⟩:=bits_step xs c hc (by omega) t[i] 3 ⟨hvi.1,by omega⟩ ⟨by omega,by omega⟩ (k+d+1) (by omega)
    have hdr:lensP (t.drop i)=⟨t[i],3,false⟩ :: lensP (t.drop (i+1)):=by rw[List.drop_eq_getElem_cons lt];rfl
    have ew:=Aside0.mk (show wrap64 ((i:Int)+1)=((i+1:Nat):Int)from(w64 (x:=(i:Int)+1) (by omega) (by omega)).trans (by omega))
    rw[show k+(d+1)+1=(k+d+1)+1 by omega,impl_WovenBlock.l1,if_pos (by omega),if_pos (by omega),if_pos (by omega),rd_at t i lt,s1,Option.bind_some,ew.out,hdr,bitsA_cons,writeL_app]
    generalize writeL (xs,c) (bitsP ⟨t[i],3,false⟩)=Z at s2 s3 ⊢
    exact ih k (i+1) Z.1 Z.2 (by omega) (by omega) hk s2 (by omega)
theorem impl_Wov_l2 (x1:List S70) (x8 x9:List Int) (rs:List S52) (x13 c13:List Int) (hf:∀ r∈rs,Has c13 x13 r.f0) (hr:∀ r∈rs,0≤r.f1∧r.f1≤1000) (hrl:rs.length≤1000) (d:Nat):∀ (k i:Nat) (xs:List Int) (c:Nat),i≤rs.length→rs.length-i=d→61≤k→Clean xs c→c+30*d≤800000000→
    impl_WovenBlock.l2 (k+d+1) x1 x8 x9 x13 c13 rs rs.length i (strOfNums xs) c=impl_WovenBlock.l2 (k+1) x1 x8 x9 x13 c13 rs rs.length rs.length (strOfNums (writeL (xs,c) (bitsA ((rs.drop i).flatMap (runP c13 x13)))).1) ((writeL (xs,c) (bitsA ((rs.drop i).flatMap (runP c13 x13)))).2:Nat):=by
  induction d with
  | zero =>
    intro k i xs c hi hd hk hc hb
    obtain rfl:i=rs.length:=by omega
    rw[List.drop_length]
    rfl
  | succ d ih =>
    intro k i xs c hi hd hk hc hb
    have lt:i<rs.length:=by omega
    have hvi:=hr rs[i] (List.getElem_mem lt)
    obtain⟨s1,s2,s3⟩:=sym_step xs c hc (by omega) c13 x13 _ (hf rs[i] (List.getElem_mem lt)) (k+d+1) (by omega)
    have hdr:(rs.drop i).flatMap (runP c13 x13)=runP c13 x13 rs[i]++(rs.drop (i+1)).flatMap (runP c13 x13):=by rw[List.drop_eq_getElem_cons lt];exact List.flatMap_cons ..
    have ew:=Aside0.mk (show wrap64 ((i:Int)+1)=((i+1:Nat):Int)from(w64 (x:=(i:Int)+1) (by omega) (by omega)).trans (by omega))
    have hex:0≤extraV rs[i].f0∧extraV rs[i].f0≤15:=by
      unfold extraV
      split
      · omega
      · split
        · omega
        · split <;> omega
    rw[show k+(d+1)+1=(k+d+1)+1 by omega,impl_WovenBlock.l2,if_pos (by omega),if_pos (by omega),if_pos (by omega),rd_Run rs i lt,s1,Option.bind_some,impl_Extra_eq,Option.bind_some,hdr]
    unfold runP
    simp only[List.cons_append,List.nil_append,bitsA_cons,writeL_app]
    generalize writeL (xs,c) (bitsP ⟨rd c13 rs[i].f0,rd x13 rs[i].f0,true⟩)=Z at s2 s3 ⊢
    clear s1
    obtain⟨s1,s4,s5⟩:=bits_step Z.1 Z.2 s2 (by omega) rs[i].f1 (extraV rs[i].f0) ⟨hvi.1,by omega⟩ hex (k+d+1) (by omega)
    rw[s1,Option.bind_some,ew.out]
    generalize writeL (Z.1,Z.2) (bitsP ⟨rs[i].f1,extraV rs[i].f0,false⟩)=Y at s4 s5 ⊢
    exact ih k (i+1) Y.1 Y.2 (by omega) (by omega) hk s4 (by omega)
theorem has_codes (ls:List Int) (hl:ls.length≤288) (hall:ls.all (inB 15)=true) (hk:¬(kindL ls=0∨kindL ls=5)) (s:Int) (hs:0≤s∧s<ls.length):Has (codesL ls).1 ls s:=by
  obtain⟨j,rfl⟩:=Int.eq_ofNat_of_zero_le hs.1
  have hj:j<ls.length:=by omega
  have hc:(codesL ls).1=asgs ls 15 1 0 (List.replicate ls.length 0):=by unfold codesL;rw[if_neg hk]
  have hb:=List.all_eq_true.mp hall ls[j] (List.getElem_mem hj)
  simp only[inB,Bool.and_eq_true,decide_eq_true_eq]at hb
  have hat:=asgs_at ls (by omega) hall 15 1 0 (List.replicate ls.length 0) j (by omega) (by omega) (by omega) rfl (by rw[List.length_replicate]) hj
  have hlen:(codesL ls).1.length=ls.length:=by rw[hc,asgs_len,List.length_replicate]
  refine⟨by omega,by omega,by omega,?_,by rw[rd_at ls j hj];exact hb⟩
  rw[hc,hat]
  have hcnt:=List.count_le_length (a:=rd ls (j:Int)) (l:=ls.take j)
  rw[List.length_take]at hcnt
  have hf:=fstB_bd' ls (by omega) (rd ls (j:Int)).toNat
  have h2:=two15 (rd ls (j:Int)).toNat (by rw[rd_at ls j hj];omega)
  split
  · omega
  · rw[rd_rep];omega
theorem trim_good (cs:List Int) (hx:cs.length≤288) (hall:cs.all (inB 12000)=true) (m:Nat) (hm:m≤cs.length) :
    (trimL (limL cs 15) m).all (inB 15)=true∧¬(kindL (trimL (limL cs 15) m)=0∨kindL (trimL (limL cs 15) m)=5)∧m≤(trimL (limL cs 15) m).length∧(trimL (limL cs 15) m).length≤cs.length∧(∀ s:Int,0≤s→s<cs.length→rd cs s≠0→s<(trimL (limL cs 15) m).length):=by
  have hp:posN cs≤2 ^ 15:=Nat.le_trans (posN_le _) (Nat.le_trans hx (by decide))
  obtain⟨g1,g2,g3,_⟩:=limL_good cs hx hall 15 (by omega) (by omega) hp
  have hl:=limL_len cs 15
  obtain⟨t1,t2,t3⟩:=trimN_le (limL cs 15) m (limL cs 15).length
  obtain⟨k1,k2⟩:=kindL_take (limL cs 15) (trimN (limL cs 15) m (limL cs 15).length) (by omega) (fun j h1 h2=>t3 j h1 h2) g1
  have hlen:(trimL (limL cs 15) m).length=trimN (limL cs 15) m (limL cs 15).length:=by unfold trimL;rw[List.length_take];omega
  refine⟨k2,?_,by rw[hlen];exact t2 (by omega),by rw[hlen];omega,fun s h0 h1 hn=>?_⟩
  · have:kindL (trimL (limL cs 15) m)=kindL (limL cs 15):=k1
    rw[this,g3]
    split
    · omega
    · split <;> omega
  · obtain⟨j,rfl⟩:=Int.eq_ofNat_of_zero_le h0
    rw[hlen]
    by_cases e:j<trimN (limL cs 15) m (limL cs 15).length
    · omega
    · exact absurd ((g2 j (by omega)).mpr (t3 j (by omega) (by omega))) hn
theorem room_set (r:List Int):∀ j:Nat,j<r.length→rd r j=0→roomL (r.set j 1)=roomL r+16384∧posN (r.set j 1)=posN r+1:=by
  induction r with
  | nil=>intro j h;cases h
  | cons x r ih =>
    intro j h h0
    cases j with
    | zero =>
      have hx:x=0:=h0
      rw[List.set_cons_zero,roomL,roomL,posN_cons,posN_cons,if_pos (show(1:Int)>0 by decide),if_neg (show ¬x>0 by omega),if_pos (show(1:Int)>0 by decide),if_neg (show ¬x>0 by omega),show p2 (15-1)=16384 by decide]
      exact⟨by omega,rfl⟩
    | succ j =>
      obtain⟨i1,i2⟩:=ih j (by rw[List.length_cons]at h;omega) h0
      rw[List.set_cons_succ,roomL,roomL,posN_cons,posN_cons,i1,i2]
      refine⟨by omega,?_⟩
      split <;> rfl
theorem kind_three (r:List Int) (h:kindL r=3):(r.length:Int)≤288∧r.all (inB 15)=true∧posN r=1∧roomL r=16384:=by
  unfold kindL at h
  by_cases e:(r.length:Int)≤288∧r.all (inB 15)=true
  · rw[if_pos e]at h
    unfold kindN at h
    refine⟨e.1,e.2,?_⟩
    by_cases e0:posN r=0
    · rw[if_pos e0]at h;omega
    · rw[if_neg e0]at h
      by_cases e1:roomL r=32768
      · rw[if_pos e1]at h;omega
      · rw[if_neg e1]at h
        by_cases e2:roomL r>32768
        · rw[if_pos e2]at h;omega
        · rw[if_neg e2]at h
          by_cases e3:posN r=1
          · rw[if_pos e3]at h
            by_cases e4:roomL r=16384
            · exact⟨e3,e4⟩
            · rw[if_neg e4]at h;omega
          · rw[if_neg e3]at h;omega
  · rw[if_neg e]at h;omega
theorem set_good (r:List Int) (h:kindL r=3) (j:Nat) (hj:j<r.length) (h0:rd r j=0):(r.set j 1).all (inB 15)=true∧kindL (r.set j 1)=2:=by
  obtain⟨a1,a2,a3,a4⟩:=kind_three r h
  obtain⟨b1,b2⟩:=room_set r j hj h0
  have hall:(r.set j 1).all (inB 15)=true:=List.all_eq_true.mpr (fun x hx=>by
    rcases List.mem_or_eq_of_mem_set hx with hx|hx
    · exact List.all_eq_true.mp a2 x hx
    · rw[hx];decide)
  refine⟨hall,?_⟩
  unfold kindL
  rw[if_pos ⟨by rw[List.length_set];exact a1,hall⟩,b1,b2,a3,a4]
  rfl
theorem third_good (rs:List S52) (hx:rs.length≤1000) (hr:∀ r∈rs,0≤r.f0∧r.f0≤18):(thirdL rs).length=19∧(thirdL rs).all (inB 15)=true∧¬(kindL (thirdL rs)=0∨kindL (thirdL rs)=5):=by
  obtain⟨c1,c2,_⟩:=cnt19_ok rs hx hr
  obtain⟨g1,g2,g3,_⟩:=limL_good (cnt19 rs) (by omega) c2 7 (by omega) (by omega) (posN19 rs hx hr)
  have hl:=limL_len (cnt19 rs) 7
  unfold thirdL
  generalize limL (cnt19 rs) 7=r at g1 g3 hl ⊢
  by_cases e:kindL r=3
  · rw[if_pos e]
    by_cases e0:rd r 0=0
    · rw[if_pos e0]
      obtain⟨s1,s2⟩:=set_good r e 0 (by omega) e0
      exact⟨by rw[List.length_set];omega,s1,by rw[s2];omega⟩
    · rw[if_neg e0]
      have h1:rd r ((1:Nat):Int)=0:=by
        obtain⟨a1,a2,a3,a4⟩:=kind_three r e
        cases r with
        | nil=>rfl
        | cons x r=>cases r with
          | nil=>rfl
          | cons y r =>
            have hx0:¬x=0:=e0
            simp only[List.all_cons,Bool.and_eq_true,inB,decide_eq_true_eq]at a2
            rw[posN_cons,posN_cons,if_pos (by omega)]at a3
            show y=0
            by_cases hy:y>0
            · rw[if_pos hy]at a3;omega
            · omega
      obtain⟨s1,s2⟩:=set_good r e 1 (by omega) h1
      exact⟨by rw[List.length_set];omega,s1,by rw[s2];omega⟩
  · rw[if_neg e]
    refine⟨by omega,g1,?_⟩
    rw[g3]
    split
    · omega
    · split <;> omega
def x8V (ts:List S70):List Int:=trimL (limL (cnt5 ts) 15) 257
def x9V (ts:List S70):List Int:=trimL (limL (cnt6 ts) 15) 1
def rsV (ts:List S70):List S52:=runsG (x8V ts++x9V ts).length (x8V ts++x9V ts) 0
def x13V (ts:List S70):List Int:=thirdL (rsV ts)
def tV (ts:List S70):List Int:=trimL (ordL (x13V ts)) 4
def allP (ts:List S70):List S62 :=
  head3 (x8V ts) (x9V ts) (tV ts)++lensP (tV ts)++(rsV ts).flatMap (runP (codesL (x13V ts)).1 (x13V ts))++(ts.flatMap (partT (x8V ts) (x9V ts) (codesL (x8V ts)).1 (codesL (x9V ts)).1)++[endP (x8V ts) (codesL (x8V ts)).1])
theorem lens_V (ts:List S70) (h:toksOk ts=true):257≤(x8V ts).length∧(x8V ts).length≤286∧1≤(x9V ts).length∧(x9V ts).length≤30∧(x8V ts).all (inB 15)=true∧(x9V ts).all (inB 15)=true∧runsV (x8V ts++x9V ts)=(rsV ts,true):=by
  obtain⟨h1,h2⟩:=toksOk_iff ts h
  obtain⟨a1,a2,_⟩:=cnt5_ok ts h2 h1
  obtain⟨b1,b2,_⟩:=cnt6_ok ts h2 h1
  obtain⟨c1,c2,c3,c4,_⟩:=trim_good (cnt5 ts) (by omega) a2 257 (by omega)
  obtain⟨d1,d2,d3,d4,_⟩:=trim_good (cnt6 ts) (by omega) b2 1 (by omega)
  refine⟨c3,by unfold x8V;omega,d3,by unfold x9V;omega,c1,d1,?_⟩
  unfold runsV
  rw[if_pos]
  · rfl
  · refine⟨by rw[List.length_append];unfold x8V x9V;omega,?_⟩
    rw[List.all_append,Bool.and_eq_true]
    exact⟨c1,d1⟩
theorem runs_V (ts:List S70) (h:toksOk ts=true):(rsV ts).length≤316∧(∀ r∈rsV ts,0≤r.f0∧r.f0≤18)∧(∀ r∈rsV ts,0≤r.f1∧r.f1≤1000)∧∀ r∈rsV ts,Has (codesL (x13V ts)).1 (x13V ts) r.f0:=by
  obtain⟨l1,l2,l3,l4,l5,l6,_⟩:=lens_V ts h
  obtain⟨r1,r2⟩:=runsG_bd (x8V ts++x9V ts) (by rw[List.all_append,Bool.and_eq_true];exact⟨l5,l6⟩) (x8V ts++x9V ts).length 0
  have hl:(rsV ts).length≤316:=by
    refine Nat.le_trans r2 ?_
    rw[List.length_append]
    omega
  have hr:∀ r∈rsV ts,0≤r.f0∧r.f0≤18:=fun r hm=>⟨(r1 r hm).1,(r1 r hm).2.1⟩
  obtain⟨t1,t2,t3⟩:=third_good (rsV ts) (by omega) hr
  refine⟨hl,hr,fun r hm=>(r1 r hm).2.2,fun r hm=>?_⟩
  have hb:=hr r hm
  exact has_codes (x13V ts) (by unfold x13V;omega) t2 t3 r.f0 ⟨hb.1,by unfold x13V;omega⟩
theorem fits_V (ts:List S70) (h:toksOk ts=true):(∀ t∈ts,Fits (x8V ts) (x9V ts) (codesL (x8V ts)).1 (codesL (x9V ts)).1 t)∧Has (codesL (x8V ts)).1 (x8V ts) 256:=by
  obtain⟨h1,h2⟩:=toksOk_iff ts h
  obtain⟨a1,a2,a3,a4⟩:=cnt5_ok ts h2 h1
  obtain⟨b1,b2,b3⟩:=cnt6_ok ts h2 h1
  obtain⟨c1,c2,c3,c4,c5⟩:=trim_good (cnt5 ts) (by omega) a2 257 (by omega)
  obtain⟨d1,d2,d3,d4,d5⟩:=trim_good (cnt6 ts) (by omega) b2 1 (by omega)
  have g8:∀ s:Int,0≤s→s<286→rd (cnt5 ts) s≠0→Has (codesL (x8V ts)).1 (x8V ts) s:=fun s s0 s1 sn=>has_codes _ (by omega) c1 c2 s ⟨s0,c5 s s0 (by omega) sn⟩
  have g9:∀ s:Int,0≤s→s<30→rd (cnt6 ts) s≠0→Has (codesL (x9V ts)).1 (x9V ts) s:=fun s s0 s1 sn=>has_codes _ (by omega) d1 d2 s ⟨s0,d5 s s0 (by omega) sn⟩
  refine⟨fun t ht=>?_,g8 256 (by omega) (by omega) a3⟩
  have hA:=List.all_eq_true.mp h1 t ht
  have hs:=sym1_bd t hA
  refine⟨fun e=>?_,fun e=>?_⟩
  · have e1:sym1 t=t.f0:=by unfold sym1;rw[if_pos e]
    rw[← e1]
    exact g8 _ hs.1 hs.2.1 (a4 t ht)
  · have e1:sym1 t=(lencT t.f1).1:=by unfold sym1;rw[if_neg e]
    obtain⟨q1,q2⟩:=tokA_cpy hA e
    have hd:=distT_bd t.f2 q2
    refine⟨q1,q2,?_,g9 _ hd.1 hd.2.1 (b3 t ht e)⟩
    rw[← e1]
    exact g8 _ hs.1 hs.2.1 (a4 t ht)
theorem has_part (cs ls:List Int) (s:Int) (h:Has cs ls s):partOk ⟨rd cs s,rd ls s,true⟩:=⟨h.2.2.2.1,h.2.2.2.2.1,by have:=h.2.2.2.2.2;show rd ls s≤60;omega⟩
theorem ordL_all (x:List Int) (h:x.length=19) (hall:x.all (inB 15)=true):∀ v∈ordL x,0≤v∧v≤15:=by
  intro v hv
  obtain⟨s,hs,rfl⟩:=List.mem_map.mp hv
  have hb:0≤s∧s<19:=by
    obtain⟨i,hi,rfl⟩:=List.getElem_of_mem hs
    have:=orderL_bd ⟨i,hi⟩
    dsimp only at this
    rwa [rd_at orderL i hi]at this
  obtain⟨j,rfl⟩:=Int.eq_ofNat_of_zero_le hb.1
  rw[rd_at x j (by omega)]
  have:=List.all_eq_true.mp hall x[j] (List.getElem_mem _)
  simp only[inB,Bool.and_eq_true,decide_eq_true_eq]at this
  exact this
theorem flat_len {α β:Type} (f:α→List β) (K:Nat) (hf:∀ a,(f a).length≤K) (l:List α):(l.flatMap f).length≤K*l.length:=by
  induction l with
  | nil=>simp
  | cons a l ih =>
    rw[List.flatMap_cons,List.length_append,List.length_cons,Nat.mul_succ]
    have:=hf a
    omega
theorem t_V (ts:List S70) (h:toksOk ts=true):4≤(tV ts).length∧(tV ts).length≤19∧∀ v∈tV ts,0≤v∧v≤15:=by
  obtain⟨r1,r2,_⟩:=runs_V ts h
  obtain⟨t1,t2,t3⟩:=third_good (rsV ts) (by omega) r2
  have ho:=ordL_len (x13V ts)
  obtain⟨q1,q2,q3⟩:=trimN_le (ordL (x13V ts)) 4 (ordL (x13V ts)).length
  have hlen:(tV ts).length=trimN (ordL (x13V ts)) 4 (ordL (x13V ts)).length:=by unfold tV trimL;rw[List.length_take];omega
  exact⟨by rw[hlen];exact q2 (by omega),by rw[hlen];omega,fun v hv=>ordL_all (x13V ts) t1 t2 v (List.mem_of_mem_take hv)⟩
theorem parts_V (ts:List S70) (h:toksOk ts=true):(∀ p∈allP ts,partOk p)∧(allP ts).length≤50000:=by
  obtain⟨h1,h2⟩:=toksOk_iff ts h
  obtain⟨l1,l2,l3,l4,_⟩:=lens_V ts h
  obtain⟨r1,r2,r3,r4⟩:=runs_V ts h
  obtain⟨f1,f2⟩:=fits_V ts h
  obtain⟨t1,t2,t3⟩:=t_V ts h
  refine⟨fun p hp=>?_,?_⟩
  · unfold allP at hp
    rcases List.mem_append.mp hp with hp|hp
    · rcases List.mem_append.mp hp with hp|hp
      · rcases List.mem_append.mp hp with hp|hp
        · unfold head3 at hp
          simp only[List.mem_cons,List.not_mem_nil,or_false]at hp
          rcases hp with rfl|rfl|rfl <;> exact⟨⟨by dsimp only;omega,by dsimp only;omega⟩,by dsimp only;omega,by dsimp only;omega⟩
        · obtain⟨v,hv,rfl⟩:=List.mem_map.mp hp
          have:=t3 v hv
          exact⟨⟨this.1,by dsimp only;omega⟩,by dsimp only;omega,by dsimp only;omega⟩
      · obtain⟨r,hr,hp⟩:=List.mem_flatMap.mp hp
        unfold runP at hp
        simp only[List.mem_cons,List.not_mem_nil,or_false]at hp
        rcases hp with rfl|rfl
        · exact has_part _ _ _ (r4 r hr)
        · have:=r3 r hr
          have hex:0≤extraV r.f0∧extraV r.f0≤15:=by
            unfold extraV
            split
            · omega
            · split
              · omega
              · split <;> omega
          exact⟨⟨this.1,by dsimp only;omega⟩,hex.1,by dsimp only;omega⟩
    · rcases List.mem_append.mp hp with hp|hp
      · obtain⟨t,ht,hp⟩:=List.mem_flatMap.mp hp
        obtain⟨g1,g2⟩:=f1 t ht
        unfold partT at hp
        by_cases e:t.f1=0
        · rw[if_pos e,List.mem_singleton]at hp
          rw[hp]
          exact has_part _ _ _ (g1 e)
        · rw[if_neg e]at hp
          obtain⟨q1,q2,q3,q4⟩:=g2 e
          have hlc:=(lencT_ok t.f1 q1).2
          have hdc:=distT_bd t.f2 q2
          simp only[List.mem_cons,List.not_mem_nil,or_false]at hp
          rcases hp with rfl|rfl|rfl|rfl
          · exact has_part _ _ _ q3
          · exact⟨⟨by dsimp only;omega,by dsimp only;omega⟩,by dsimp only;omega,by dsimp only;omega⟩
          · exact has_part _ _ _ q4
          · exact⟨⟨by dsimp only;omega,by dsimp only;omega⟩,by dsimp only;omega,by dsimp only;omega⟩
      · rw[List.mem_singleton.mp hp]
        exact has_part _ _ _ f2
  · have e1:=flat_len (runP (codesL (x13V ts)).1 (x13V ts)) 2 (fun r=>Nat.le_refl _) (rsV ts)
    have e2:=flat_len (partT (x8V ts) (x9V ts) (codesL (x8V ts)).1 (codesL (x9V ts)).1) 4 (fun t=>by
      unfold partT
      split
      · show 1≤4;omega
      · exact Nat.le_refl 4) ts
    have e3:(lensP (tV ts)).length=(tV ts).length:=List.length_map ..
    have e4:(head3 (x8V ts) (x9V ts) (tV ts)).length=3:=rfl
    unfold allP
    simp only[List.length_append,List.length_singleton]
    omega
theorem toklV_ok (ts:List S70) (h:toksOk ts=true):toklV ts=(x8V ts,x9V ts,true):=by unfold toklV;rw[if_pos h];rfl
theorem spec_Wov_rest (ts:List S70) (h:toksOk ts=true) (b:ByteArray) (m:Int) (bad:Bool) (k:Nat) (hk:1000000≤k) :
    spec_WovenBlock.l2 k ts (x8V ts) (x9V ts) (rsV ts) (x13V ts) (tV ts) (head3 (x8V ts) (x9V ts) (tV ts)) 0 b m bad=(spec_l09All.f (k-(tV ts).length-1-(rsV ts).length-1) b m bad (allP ts)).bind fun r=>if r.2.2=true then some ((⟨#[]⟩:ByteArray),0,false)else some (r.1,r.2.1,true):=by
  obtain⟨h1,h2⟩:=toksOk_iff ts h
  obtain⟨r1,r2,r3,r4⟩:=runs_V ts h
  obtain⟨f1,f2⟩:=fits_V ts h
  obtain⟨t1,t2,t3⟩:=t_V ts h
  obtain⟨K,rfl⟩:∃ K,k=K+(tV ts).length+1:=⟨k-(tV ts).length-1,by omega⟩
  have e2:=spec_Wov_l2 ts (x8V ts) (x9V ts) (rsV ts) (x13V ts) (tV ts) t2 b m bad (tV ts).length K 0 (head3 (x8V ts) (x9V ts) (tV ts)) (by omega) (by omega) (show 3≤10+0 by omega)
  rw[List.drop_zero]at e2
  refine Eq.trans e2 ?_
  rw[spec_CodesOf_eq (x13V ts) K (by omega),Option.bind_some]
  obtain⟨K2,rfl⟩:∃ K2,K=K2+(rsV ts).length+1:=⟨K-(rsV ts).length-1,by omega⟩
  have e3:=spec_Wov_l3 ts (x8V ts) (x9V ts) (rsV ts) (by omega) (x13V ts) (codesL (x13V ts)).1 r4 b m bad (rsV ts).length K2 0 (head3 (x8V ts) (x9V ts) (tV ts)++lensP (tV ts)) (by omega) (by omega) (by
    rw[List.length_append]
    have a1:(head3 (x8V ts) (x9V ts) (tV ts)).length=3:=rfl
    have a2:(lensP (tV ts)).length=(tV ts).length:=List.length_map ..
    omega)
  rw[List.drop_zero]at e3
  refine Eq.trans e3 ?_
  have eb:=spec_Body_l0 ts h2 (x8V ts) (x9V ts) (codesL (x8V ts)).1 (codesL (x9V ts)).1 f1 f2 ts.length K2 0 [] (by omega) (by omega) (by omega) (by simp)
  rw[List.drop_zero,List.nil_append]at eb
  have ebf:spec_l09Body.f K2 ts (x8V ts) (x9V ts)=some (ts.flatMap (partT (x8V ts) (x9V ts) (codesL (x8V ts)).1 (codesL (x9V ts)).1)++[endP (x8V ts) (codesL (x8V ts)).1]):=by
    unfold spec_l09Body.f
    rw[spec_CodesOf_eq (x8V ts) K2 (by omega),Option.bind_some,spec_CodesOf_eq (x9V ts) K2 (by omega),Option.bind_some]
    exact eb
  have hpl:=(parts_V ts h).2
  unfold allP at hpl
  rw[List.length_append]at hpl
  rw[spec_WovenBlock.l3,if_neg (by omega),ebf,Option.bind_some,if_pos (by omega),show K2+(rsV ts).length+1+(tV ts).length+1-(tV ts).length-1-(rsV ts).length-1=K2 by omega]
  rfl
theorem impl_out_eq (xs:List Int) (c:Int):impl_writer_out.f (strOfNums xs) c=if 12000<xs.length then some ((⟨#[]⟩:ByteArray),0,false,strOfNums xs,c)else some (strOfNums xs,c,true,strOfNums xs,c):=by
  unfold impl_writer_out.f
  rw[size_str]
theorem bits3 (xs:List Int) (c:Nat) (h:Clean xs c) (hc:c≤800000000) (x8 x9 t:List Int) (l1:257≤x8.length) (l2:x8.length≤286) (l3:1≤x9.length) (l4:x9.length≤30) (l5:4≤t.length) (l6:t.length≤19) (k:Nat) (hk:61≤k) {α:Type} (F:ByteArray×Int→Option α) :
    ((impl_writer_bits.f k (strOfNums xs) c ((x8.length:Int)-257) 5).bind fun a=>(impl_writer_bits.f k a.1 a.2 ((x9.length:Int)-1) 5).bind fun b=>(impl_writer_bits.f k b.1 b.2 ((t.length:Int)-4) 4).bind F)=F (strOfNums (writeL (xs,c) (bitsA (head3 x8 x9 t))).1,(((writeL (xs,c) (bitsA (head3 x8 x9 t))).2:Nat):Int))∧Clean (writeL (xs,c) (bitsA (head3 x8 x9 t))).1 (writeL (xs,c) (bitsA (head3 x8 x9 t))).2∧(writeL (xs,c) (bitsA (head3 x8 x9 t))).2≤c+45:=by
  obtain⟨s1,s2,s3⟩:=bits_step xs c h (by omega) ((x8.length:Int)-257) 5 ⟨by omega,by omega⟩ ⟨by omega,by omega⟩ k hk
  unfold head3
  simp only[bitsA_cons,writeL_app]
  rw[s1,Option.bind_some]
  generalize writeL (xs,c) (bitsP ⟨(x8.length:Int)-257,5,false⟩)=Z at s2 s3 ⊢
  clear s1
  obtain⟨s1,s4,s5⟩:=bits_step Z.1 Z.2 s2 (by omega) ((x9.length:Int)-1) 5 ⟨by omega,by omega⟩ ⟨by omega,by omega⟩ k hk
  dsimp only
  rw[s1,Option.bind_some]
  generalize writeL (Z.1,Z.2) (bitsP ⟨(x9.length:Int)-1,5,false⟩)=Y at s4 s5 ⊢
  clear s1
  obtain⟨s1,s6,s7⟩:=bits_step Y.1 Y.2 s4 (by omega) ((t.length:Int)-4) 4 ⟨by omega,by omega⟩ ⟨by omega,by omega⟩ k hk
  dsimp only
  rw[s1,Option.bind_some]
  exact⟨rfl,s6,by show(writeL (Y.1,Y.2) (bitsP ⟨(t.length:Int)-4,4,false⟩)).2≤c+45;omega⟩
theorem lens_bits (t:List Int):(bitsA (lensP t)).length=3*t.length:=by
  induction t with
  | nil=>rfl
  | cons v t ih =>
    show(bitsA (⟨v,3,false⟩ :: lensP t)).length=_
    rw[bitsA_cons,List.length_append,ih,bitsP_len,List.length_cons]
    show 3+_=_
    omega
theorem run_bits (cs ls:List Int) (rs:List S52) (hf:∀ r∈rs,Has cs ls r.f0):(bitsA (rs.flatMap (runP cs ls))).length≤30*rs.length:=by
  induction rs with
  | nil=>exact Nat.le_refl _
  | cons r rs ih =>
    have h1:=ih (fun q hq=>hf q (List.mem_cons_of_mem _ hq))
    have h2:=(hf r (List.mem_cons_self ..)).2.2.2.2
    have hex:0≤extraV r.f0∧extraV r.f0≤15:=by
      unfold extraV
      split
      · omega
      · split
        · omega
        · split <;> omega
    rw[List.flatMap_cons,bitsA_app,List.length_append,List.length_cons]
    have h3:(bitsA (runP cs ls r)).length=(rd ls r.f0).toNat+(extraV r.f0).toNat:=by
      unfold runP
      rw[bitsA_cons,bitsA_cons,List.length_append,List.length_append,bitsP_len,bitsP_len]
      rfl
    omega
def tokP (ts:List S70):List S62:=ts.flatMap (partT (x8V ts) (x9V ts) (codesL (x8V ts)).1 (codesL (x9V ts)).1)++[endP (x8V ts) (codesL (x8V ts)).1]
def rnP (ts:List S70):List S62:=(rsV ts).flatMap (runP (codesL (x13V ts)).1 (x13V ts))
theorem allP_eq (ts:List S70):allP ts=head3 (x8V ts) (x9V ts) (tV ts)++lensP (tV ts)++rnP ts++tokP ts:=rfl
theorem allP_write (ts:List S70) (p:List Int×Nat) (hb:List Int):writeL p (hb++bitsA (allP ts))=writeL (writeL (writeL (writeL (writeL p hb) (bitsA (head3 (x8V ts) (x9V ts) (tV ts)))) (bitsA (lensP (tV ts)))) (bitsA (rnP ts))) (bitsA (tokP ts)):=by
  rw[allP_eq,bitsA_app,bitsA_app,bitsA_app,writeL_app,writeL_app,writeL_app,writeL_app]
theorem pair_eta (p:List Int×Nat):(p.1,p.2)=p:=rfl
theorem impl_Wov_toks (ts:List S70) (h:toksOk ts=true) (p:List Int×Nat) (hc:Clean p.1 p.2) (hb:p.2≤70000000) (k:Nat) (hk:20000≤k) :
    impl_WovenBlock.l2 (k+1) ts (x8V ts) (x9V ts) (x13V ts) (codesL (x13V ts)).1 (rsV ts) (rsV ts).length (rsV ts).length (strOfNums p.1) p.2=(impl_writer_out.f (strOfNums (writeL p (bitsA (tokP ts))).1) ((writeL p (bitsA (tokP ts))).2:Nat)).bind fun b=>some (b.1,b.2.1,b.2.2.1):=by
  obtain⟨h1,h2⟩:=toksOk_iff ts h
  obtain⟨f1,f2⟩:=fits_V ts h
  obtain⟨l1,l2,l3,l4,_⟩:=lens_V ts h
  have q3:=impl_tokens_l0 ts h2 (x8V ts) (x9V ts) (codesL (x8V ts)).1 (codesL (x9V ts)).1 f1 f2 ts.length k 0 p.1 p.2 (by omega) (by omega) (by omega) hc (by omega)
  rw[List.drop_zero,pair_eta]at q3
  have qf:impl_writer_tokens.f k (strOfNums p.1) p.2 ts (x8V ts) (x9V ts)=some (strOfNums (writeL p (bitsA (tokP ts))).1,(((writeL p (bitsA (tokP ts))).2:Nat):Int)):=by
    unfold impl_writer_tokens.f
    rw[impl_CodesOf.f,if_pos (by omega),codesB_eq,Option.bind_some,impl_CodesOf.f,if_pos (by omega),codesB_eq,Option.bind_some]
    exact q3
  rw[impl_WovenBlock.l2,if_neg (by omega),qf,Option.bind_some]
theorem impl_Wov_runs (ts:List S70) (h:toksOk ts=true) (p:List Int×Nat) (hc:Clean p.1 p.2) (hb:p.2≤60000000) (k:Nat) (hk:30000≤k) :
    impl_WovenBlock.l2 k ts (x8V ts) (x9V ts) (x13V ts) (codesL (x13V ts)).1 (rsV ts) (rsV ts).length 0 (strOfNums p.1) p.2=(impl_writer_out.f (strOfNums (writeL (writeL p (bitsA (rnP ts))) (bitsA (tokP ts))).1) ((writeL (writeL p (bitsA (rnP ts))) (bitsA (tokP ts))).2:Nat)).bind fun b=>some (b.1,b.2.1,b.2.2.1):=by
  obtain⟨r1,r2,r3,r4⟩:=runs_V ts h
  obtain⟨K,rfl⟩:∃ K,k=K+(rsV ts).length+1:=⟨k-(rsV ts).length-1,by omega⟩
  have q2:=impl_Wov_l2 ts (x8V ts) (x9V ts) (rsV ts) (x13V ts) (codesL (x13V ts)).1 r4 r3 (by omega) (rsV ts).length K 0 p.1 p.2 (by omega) (by omega) (by omega) hc (by omega)
  rw[List.drop_zero,pair_eta]at q2
  have vc:=writeL_clean (bitsA (rnP ts)) (bitsA_bd _) p hc
  have vs2:=writeL_snd (bitsA (rnP ts)) p
  have vs4:=run_bits _ _ _ r4
  have vs3:(writeL p (bitsA (rnP ts))).2≤p.2+30*(rsV ts).length:=by
    rw[vs2]
    exact Nat.add_le_add_left vs4 _
  clear vs2 vs4
  refine Eq.trans q2 ?_
  clear q2
  exact impl_Wov_toks ts h (writeL p (bitsA (rnP ts))) vc (by omega) K (by omega)
theorem impl_Wov_lens (ts:List S70) (h:toksOk ts=true) (p:List Int×Nat) (hc:Clean p.1 p.2) (hb:p.2≤50000000) (k:Nat) (hk:40000≤k) :
    impl_WovenBlock.l1 k ts (x8V ts) (x9V ts) (rsV ts) (x13V ts) (tV ts) (tV ts).length 0 (strOfNums p.1) p.2=(impl_writer_out.f (strOfNums (writeL (writeL (writeL p (bitsA (lensP (tV ts)))) (bitsA (rnP ts))) (bitsA (tokP ts))).1) ((writeL (writeL (writeL p (bitsA (lensP (tV ts)))) (bitsA (rnP ts))) (bitsA (tokP ts))).2:Nat)).bind fun b=>some (b.1,b.2.1,b.2.2.1):=by
  obtain⟨r1,r2,r3,r4⟩:=runs_V ts h
  obtain⟨t1,t2,t3⟩:=t_V ts h
  obtain⟨K,rfl⟩:∃ K,k=K+(tV ts).length+1:=⟨k-(tV ts).length-1,by omega⟩
  have q1:=impl_Wov_l1 ts (x8V ts) (x9V ts) (rsV ts) (x13V ts) (tV ts) t2 t3 (tV ts).length K 0 p.1 p.2 (by omega) (by omega) (by omega) hc (by omega)
  rw[List.drop_zero,pair_eta]at q1
  refine Eq.trans q1 ?_
  clear q1
  have g1':(x13V ts).length=19:=(third_good (rsV ts) (by omega) r2).1
  rw[impl_CodesOf.f,if_pos (by omega),codesB_eq,Option.bind_some]
  have vc:=writeL_clean (bitsA (lensP (tV ts))) (bitsA_bd _) p hc
  have vs2:=writeL_snd (bitsA (lensP (tV ts))) p
  have vs3:(writeL p (bitsA (lensP (tV ts)))).2=p.2+3*(tV ts).length:=by
    rw[vs2,lens_bits]
  clear vs2
  have e:=impl_Wov_runs ts h (writeL p (bitsA (lensP (tV ts)))) vc (by omega) K (by omega)
  generalize writeL p (bitsA (lensP (tV ts)))=X at e ⊢
  exact e
theorem impl_Wov_heads (ts:List S70) (h:toksOk ts=true) (p:List Int×Nat) (hc:Clean p.1 p.2) (hb:p.2≤40000000) (k:Nat) (hk:50000≤k) :
    ((impl_writer_bits.f k (strOfNums p.1) p.2 (wrap64 (((x8V ts).length:Int)-257)) 5).bind fun a=>(impl_writer_bits.f k a.1 a.2 (wrap64 (((x9V ts).length:Int)-1)) 5).bind fun b=>(impl_writer_bits.f k b.1 b.2 (wrap64 (((tV ts).length:Int)-4)) 4).bind fun d=>impl_WovenBlock.l1 k ts (x8V ts) (x9V ts) (rsV ts) (x13V ts) (tV ts) (tV ts).length 0 d.1 d.2)=(impl_writer_out.f (strOfNums (writeL (writeL (writeL (writeL p (bitsA (head3 (x8V ts) (x9V ts) (tV ts)))) (bitsA (lensP (tV ts)))) (bitsA (rnP ts))) (bitsA (tokP ts))).1) ((writeL (writeL (writeL (writeL p (bitsA (head3 (x8V ts) (x9V ts) (tV ts)))) (bitsA (lensP (tV ts)))) (bitsA (rnP ts))) (bitsA (tokP ts))).2:Nat)).bind fun b=>some (b.1,b.2.1,b.2.2.1):=by
  obtain⟨t1,t2,t3⟩:=t_V ts h
  obtain⟨l1,l2,l3,l4,_⟩:=lens_V ts h
  rw[w64 (x:=((x8V ts).length:Int)-257) (by omega) (by omega),w64 (x:=((x9V ts).length:Int)-1) (by omega) (by omega),w64 (x:=((tV ts).length:Int)-4) (by omega) (by omega)]
  obtain⟨e1,e2,e3⟩:=bits3 p.1 p.2 hc (by omega) (x8V ts) (x9V ts) (tV ts) l1 l2 l3 l4 t1 t2 k (by omega) (fun d=>impl_WovenBlock.l1 k ts (x8V ts) (x9V ts) (rsV ts) (x13V ts) (tV ts) (tV ts).length 0 d.1 d.2)
  simp only[pair_eta]at e1 e2 e3
  refine Eq.trans e1 ?_
  clear e1
  have e:=impl_Wov_lens ts h (writeL p (bitsA (head3 (x8V ts) (x9V ts) (tV ts)))) e2 (by omega) k (by omega)
  generalize writeL p (bitsA (head3 (x8V ts) (x9V ts) (tV ts)))=X at e ⊢
  exact e
theorem impl_Wov_rest (ts:List S70) (h:toksOk ts=true) (f:Bool) (p:List Int×Nat) (hc:Clean p.1 p.2) (hb:p.2≤1000000) (k:Nat) (hk:1000000≤k) :
    impl_WovenBlock.l0 (k+1) ts f (x8V ts) (x9V ts) (rsV ts) (x13V ts) (ordL (x13V ts)) orderL orderL.length 19 (strOfNums p.1) p.2=(impl_writer_out.f (strOfNums (writeL p (headB f++bitsA (allP ts))).1) ((writeL p (headB f++bitsA (allP ts))).2:Nat)).bind fun b=>some (b.1,b.2.1,b.2.2.1):=by
  have hol:(orderL.length:Int)=19:=rfl
  have ht:=spec_Trim_eq (ordL (x13V ts)) (by rw[ordL_len];omega) 4 k (by omega)
  rw[show((4:Nat):Int)=4 from rfl]at ht
  have hlen:=hc.1
  have hwo:impl_writerOf.f (strOfNums p.1) (p.2:Int)=some (strOfNums p.1,(p.2:Int)):=by
    unfold impl_writerOf.f
    rw[size_str,if_pos (by omega)]
  have hH:=impl_Head_eq p.1 p.2 hc hb f k (by omega)
  have hHc:=writeL_clean (headB f) (headB_bd f) p hc
  have hHs:=writeL_snd (headB f) p
  rw[headB_len]at hHs
  rw[pair_eta]at hH
  rw[impl_WovenBlock.l0,hol,if_neg (by omega),trim_eq,ht,Option.bind_some,hwo,Option.bind_some,hH,Option.bind_some,allP_write]
  have e:=impl_Wov_heads ts h (writeL p (headB f)) hHc (by omega) k (by omega)
  clear hH
  generalize writeL p (headB f)=X at e ⊢
  exact e
def wvP (ts:List S70) (s:ByteArray) (n:Int) (f:Bool):List Int×Nat:=writeL (bytesOf s,n.toNat) (headB f++bitsA (allP ts))
def outR (p:List Int×Nat):ByteArray×Int×Bool:=if p.1.length≤12000 then(strOfNums p.1,((p.2:Nat):Int),true)else((⟨#[]⟩:ByteArray),0,false)
def wvR (ts:List S70) (s:ByteArray) (n:Int) (f:Bool):ByteArray×Int×Bool:=if toksOk ts=true then(if outB s n=true then outR (wvP ts s n f)else((⟨#[]⟩:ByteArray),0,false))else((⟨#[]⟩:ByteArray),0,false)
theorem out_outR (p:List Int×Nat):((impl_writer_out.f (strOfNums p.1) ((p.2:Nat):Int)).bind fun b=>some (b.1,b.2.1,b.2.2.1))=some (outR p):=by
  rw[impl_out_eq]
  unfold outR
  by_cases h:p.1.length≤12000
  · rw[if_pos h,if_neg (by omega)];rfl
  · rw[if_neg h,if_pos (by omega)];rfl
theorem toklV_no (ts:List S70) (h:¬toksOk ts=true):toklV ts=([],[],false):=by unfold toklV;rw[if_neg h]
theorem impl_WovenBlock_go (ts:List S70) (h:toksOk ts=true) (s:ByteArray) (n:Int) (ho:outB s n=true) (f:Bool) (k:Nat) (hk:40000000≤k) :
    impl_WovenBlock.j0 (k+1) ts f (x8V ts) (x9V ts) false s n=some (outR (wvP ts s n f)):=by
  obtain⟨l1,l2,l3,l4,l5,l6,l7⟩:=lens_V ts h
  obtain⟨r1,r2,r3,r4⟩:=runs_V ts h
  obtain⟨o1,o2,o3⟩:=outB_clean s n ho
  have g1:(x13V ts).length=19:=(third_good (rsV ts) (by omega) r2).1
  have eL:(x8V ts++x9V ts).length≤1000:=by rw[List.length_append];omega
  rw[impl_WovenBlock.j0,if_neg (by decide)]
  unfold slices_Concat_int_int.f
  rw[if_pos (by omega),Option.bind_some,impl_RunsOf_eq _ (by omega) k (by omega),l7,Option.bind_some]
  dsimp only
  rw[impl_third_eq (rsV ts) (by omega) r2 k (by omega),Option.bind_some,show thirdL (rsV ts)=x13V ts from rfl]
  unfold impl_orderOf.f
  rw[Option.bind_some]
  obtain⟨K,rfl⟩:∃ K,k=K+19+1:=⟨k-20,by omega⟩
  have q:=impl_Wov_l0 ts f (x8V ts) (x9V ts) (rsV ts) (x13V ts) g1 s n 19 K 0 (by omega) (by omega)
  rw[List.take_zero]at q
  refine Eq.trans q ?_
  clear q
  have e:=impl_Wov_rest ts h f (bytesOf s,n.toNat) o3 (by show n.toNat≤1000000;omega) K (by omega)
  dsimp only at e
  rw[str_bytes,show((n.toNat:Nat):Int)=n by omega]at e
  refine Eq.trans e ?_
  rw[out_outR]
  rfl
theorem impl_WovenBlock_eq (ts:List S70) (hx:ts.length≤10000000) (s:ByteArray) (n:Int) (hs:s.size≤1048576) (f:Bool) (k:Nat) (hk:50000000≤k):impl_WovenBlock.f k s n ts f=some (wvR ts s n f):=by
  unfold impl_WovenBlock.f
  rw[impl_TokenLengths_eq ts hx k (by omega),Option.bind_some,impl_OutOk_eq s n hs,Option.bind_some]
  obtain⟨k,rfl⟩:∃ K,k=K+1:=⟨k-1,by omega⟩
  unfold wvR
  by_cases ht:toksOk ts=true
  · rw[toklV_ok ts ht,if_pos ht]
    by_cases ho:outB s n=true
    · rw[if_pos ho,if_pos ho]
      exact impl_WovenBlock_go ts ht s n ho f k (by omega)
    · rw[if_neg ho,if_neg ho,impl_WovenBlock.j0,if_pos rfl]
  · rw[toklV_no ts ht,if_neg ht]
    by_cases ho:outB s n=true
    · rw[if_pos ho,impl_WovenBlock.j0,if_pos (by rfl)]
    · rw[if_neg ho,impl_WovenBlock.j0,if_pos rfl]
theorem spec_All_eq (ts:List S70) (h:toksOk ts=true) (p:List Int×Nat) (hc:Clean p.1 p.2) (hb:p.2≤96000) (k:Nat) (hk:10000000≤k) :
    spec_l09All.f k (strOfNums p.1) ((p.2:Nat):Int) false (allP ts)=if(writeL p (bitsA (allP ts))).1.length≤12000 then some (strOfNums (writeL p (bitsA (allP ts))).1,(((writeL p (bitsA (allP ts))).2:Nat):Int),false)else some (strOfNums p.1,((p.2:Nat):Int),true):=by
  obtain⟨p1,p2⟩:=parts_V ts h
  have hl:=hc.1
  have e:=spec_All_l0 (allP ts) (by omega) p1 (strOfNums p.1) ((p.2:Nat):Int) (allP ts).length k 0 p.1 p.2 (by omega) (by omega) (by omega) hc (by omega) (by omega) (by omega)
  rw[List.drop_zero,pair_eta]at e
  unfold spec_l09All.f
  rw[if_neg (by decide),size_str,if_pos (by omega),bytesOf_str p.1 hc.2.1]
  exact e
theorem spec_WovenBlock_go (ts:List S70) (h:toksOk ts=true) (s:ByteArray) (n:Int) (hs:s.size≤1048576) (f:Bool) (k:Nat) (hk:20000000≤k) :
    ((spec_l09Head.f k s n 2 f).bind fun b=>spec_WovenBlock.l2 k ts (x8V ts) (x9V ts) (rsV ts) (x13V ts) (tV ts) (head3 (x8V ts) (x9V ts) (tV ts)) 0 b.1 b.2.1 b.2.2)=some (if outB s n=true then outR (wvP ts s n f)else((⟨#[]⟩:ByteArray),0,false)):=by
  obtain⟨l1,l2,l3,l4,_⟩:=lens_V ts h
  obtain⟨r1,_,_,_⟩:=runs_V ts h
  obtain⟨t1,t2,_⟩:=t_V ts h
  obtain⟨H1,H2⟩:=spec_Head_eq s n hs f k (by omega)
  by_cases e:outB s n=true∧n+3≤96000
  · obtain⟨o1,o2,o3⟩:=outB_clean s n e.1
    rw[H1 e,Option.bind_some,if_pos e.1]
    have hc:=writeL_clean (headB f) (headB_bd f) (bytesOf s,n.toNat) o3
    have hn:=writeL_snd (headB f) (bytesOf s,n.toNat)
    rw[headB_len]at hn
    have hn':(writeL (bytesOf s,n.toNat) (headB f)).2=n.toNat+3:=hn
    dsimp only
    unfold wvP
    rw[writeL_app,spec_Wov_rest ts h _ _ _ k (by omega)]
    generalize writeL (bytesOf s,n.toNat) (headB f)=Y at hc hn' ⊢
    rw[spec_All_eq ts h Y hc (by omega) _ (by omega)]
    unfold outR
    by_cases hl:(writeL Y (bitsA (allP ts))).1.length≤12000
    · rw[if_pos hl,if_pos hl,Option.bind_some,if_neg (show ¬false=true by decide)]
    · rw[if_neg hl,if_neg hl,Option.bind_some,if_pos rfl]
  · obtain⟨b,m,hb⟩:=H2 e
    rw[hb,Option.bind_some]
    dsimp only
    rw[spec_Wov_rest ts h _ _ _ k (by omega)]
    unfold spec_l09All.f
    rw[if_pos rfl,Option.bind_some,if_pos rfl]
    by_cases ho:outB s n=true
    · rw[if_pos ho]
      obtain⟨o1,o2,o3⟩:=outB_clean s n ho
      have h96:¬n+3≤96000:=fun q=>e ⟨ho,q⟩
      have hc:=writeL_clean (headB f++bitsA (allP ts)) (fun x hx=>(List.mem_append.mp hx).elim (headB_bd f x) (bitsA_bd _ x)) (bytesOf s,n.toNat) o3
      have hn:=writeL_snd (headB f++bitsA (allP ts)) (bytesOf s,n.toNat)
      rw[List.length_append,headB_len]at hn
      have hl:=hc.1
      unfold outR wvP
      generalize writeL (bytesOf s,n.toNat) (headB f++bitsA (allP ts))=Y at hl hn ⊢
      dsimp only at hn
      rw[if_neg (by omega)]
    · rw[if_neg ho]
theorem spec_WovenBlock_eq (ts:List S70) (hx:ts.length≤10000000) (s:ByteArray) (n:Int) (hs:s.size≤1048576) (f:Bool) (k:Nat) (hk:50000000≤k):spec_WovenBlock.f k s n ts f=some (wvR ts s n f):=by
  unfold spec_WovenBlock.f wvR
  rw[spec_TokenLengths_eq ts hx k (by omega),Option.bind_some]
  by_cases ht:toksOk ts=true
  · obtain⟨l1,l2,l3,l4,l5,l6,l7⟩:=lens_V ts ht
    obtain⟨r1,r2,r3,r4⟩:=runs_V ts ht
    obtain⟨t1,t2,t3⟩:=t_V ts ht
    have g1:(x13V ts).length=19:=(third_good (rsV ts) (by omega) r2).1
    have eL:(x8V ts++x9V ts).length≤1000:=by rw[List.length_append];omega
    rw[toklV_ok ts ht,if_pos ht]
    dsimp only
    rw[if_pos rfl,Option.bind_some,List.nil_append,if_pos (by rw[List.length_nil];omega),Option.bind_some,if_pos (by omega),spec_RunsOf_eq _ (by omega) k (by omega),l7,Option.bind_some,if_pos (by decide)]
    dsimp only
    obtain⟨K,rfl⟩:∃ K,k=K+1+(rsV ts).length+1:=⟨k-(rsV ts).length-2,by omega⟩
    rw[spec_third_eq ts f (x8V ts) (x9V ts) s n (rsV ts) (by omega) r2 (K+1) (by omega),spec_WovenBlock.j1,show thirdL (rsV ts)=x13V ts from rfl]
    obtain⟨K2,rfl⟩:∃ K2,K=K2+19+1:=⟨K-20,by omega⟩
    have q:=spec_Wov_l1 ts f (x8V ts) (x9V ts) (rsV ts) (x13V ts) g1 s n 19 K2 0 (by omega) (by omega)
    rw[List.take_zero]at q
    refine Eq.trans q ?_
    clear q
    have htr:=spec_Trim_eq (ordL (x13V ts)) (by rw[ordL_len];omega) 4 K2 (by omega)
    rw[show((4:Nat):Int)=4 from rfl,show trimL (ordL (x13V ts)) 4=tV ts from rfl]at htr
    rw[spec_WovenBlock.l1,if_neg (by omega),htr,Option.bind_some,w64 (x:=((x8V ts).length:Int)-257) (by omega) (by omega),w64 (x:=((x9V ts).length:Int)-1) (by omega) (by omega),w64 (x:=((tV ts).length:Int)-4) (by omega) (by omega)]
    exact spec_WovenBlock_go ts ht s n hs f K2 (by omega)
  · rw[toklV_no ts ht,if_neg ht]
    rfl
theorem rd_LToken (xs:List S72) (i:Nat) (h:i<xs.length):rd_T72 xs i=xs[i]:=by
  simp[rd_T72,List.getD,h]
def toToken (x:S72):S70:=⟨x.f0,x.f1,x.f2⟩
theorem laws_toTokenS_l0 (xs:List S72) (hx:xs.length≤9223372036854775807) (d:Nat):∀ (k i:Nat) (ys:List S70),i≤xs.length→xs.length-i=d→d<k→ys.length=xs.length→(∀ j:Nat,j<i→ys[j]? = (xs.map toToken)[j]?)→laws_toTokenS.l0 k xs ys i=some (xs.map toToken):=by
  induction d with
  | zero =>
    intro k i ys hi hd hk hl hy
    obtain⟨k,rfl⟩:∃ m,k=m+1:=⟨k-1,by omega⟩
    simp only[laws_toTokenS.l0]
    rw[if_neg (by omega)]
    congr 1
    apply List.ext_getElem?
    intro j
    by_cases hj:j<i
    · exact hy j hj
    · rw[List.getElem?_eq_none (by omega),List.getElem?_eq_none (by simp;omega)]
  | succ d ih =>
    intro k i ys hi hd hk hl hy
    obtain⟨k,rfl⟩:∃ m,k=m+1:=⟨k-1,by omega⟩
    have lt:i<xs.length:=by omega
    simp only[laws_toTokenS.l0,laws_toToken.f,Option.bind_some]
    rw[if_pos (by omega),if_pos (by omega),if_pos (by omega),rd_LToken xs i lt,w64 (by omega) (by omega),Int.toNat_natCast]
    refine ih k (i+1) _ (by omega) (by omega) (by omega) (by simpa using hl) (fun j hj=>?_)
    by_cases e:j=i
    · subst e
      rw[List.getElem?_set_self (by omega),List.getElem?_map,List.getElem?_eq_getElem lt]
      rfl
    · rw[List.getElem?_set_ne (by omega),hy j (by omega)]
theorem laws_toTokenS_eq (xs:List S72) (hx:xs.length≤1048576) (k:Nat) (hk:xs.length<k):laws_toTokenS.f k xs=some (xs.map toToken):=by
  unfold laws_toTokenS.f
  rw[if_pos (by omega),if_pos (by omega),Int.toNat_natCast]
  exact laws_toTokenS_l0 xs (by omega) xs.length k 0 _ (by omega) (by omega) hk (by simp) (fun j hj=>absurd hj (by omega))
theorem laws_eqTokenS_l0 (xs:List S70) (hx:xs.length≤9223372036854775807) (d:Nat):∀ (k i:Nat),i≤xs.length→xs.length-i=d→d<k→laws_eqTokenS.l0 k xs xs i=some true:=by
  induction d with
  | zero =>
    intro k i hi hd hk
    obtain⟨k,rfl⟩:∃ m,k=m+1:=⟨k-1,by omega⟩
    simp only[laws_eqTokenS.l0]
    rw[if_neg (by omega)]
  | succ d ih =>
    intro k i hi hd hk
    obtain⟨k,rfl⟩:∃ m,k=m+1:=⟨k-1,by omega⟩
    simp only[laws_eqTokenS.l0]
    rw[if_pos (by omega),if_pos (by omega),if_pos (by omega)]
    simp only[laws_eqToken.f,if_true,Option.bind_some]
    rw[w64 (by omega) (by omega)]
    exact ih k (i+1) (by omega) (by omega) (by omega)
theorem laws_eqTokenS_refl (xs:List S70) (hx:xs.length≤9223372036854775807) (k:Nat) (hk:xs.length<k):laws_eqTokenS.f k xs xs=some true:=by
  unfold laws_eqTokenS.f
  rw[if_pos rfl]
  exact laws_eqTokenS_l0 xs hx xs.length k 0 (by omega) (by omega) hk
theorem laws_eqOut_refl (s:ByteArray) (n:Int):laws_eqOut.f s n s n=some true:=by
  unfold laws_eqOut.f
  rw[if_pos rfl,if_pos rfl]
theorem FnExactWovenBlock:∀ (s:ByteArray) (n:Int) (ts:List S72) (f:Bool),s.size≤9223372036854775807→(Lit.int .i64 n).wf=true→ts.length≤9223372036854775807→(∀ x∈ts,((Lit.int .i64 x.f0).wf=true)∧((Lit.int .i64 x.f1).wf=true)∧((Lit.int .i64 x.f2).wf=true))→∃ k,laws_FnExactWovenBlock.f k s n ts f=some true:=by
  intro s n ts f h1 _ h3 _
  obtain⟨k,hk⟩:∃ k:Nat,k=60000000:=⟨_,rfl⟩
  refine⟨k,?_⟩
  unfold laws_FnExactWovenBlock.f laws_szOut.f
  by_cases e1:wrap64 (1048576-(s.size:Int))<0
  · rw[if_pos e1,Option.bind_some,if_pos (by decide)]
  · rw[if_neg e1,Option.bind_some,if_neg e1]
    rw[w64 (x:=1048576-(s.size:Int)) (by omega) (by omega)]at e1 ⊢
    unfold laws_szTokenS.f
    by_cases e2:wrap64 (1048576-(s.size:Int)-(ts.length:Int))<0
    · rw[if_pos e2,Option.bind_some,if_pos (by decide)]
    · rw[if_neg e2,Option.bind_some,if_neg e2]
      rw[w64 (x:=1048576-(s.size:Int)-(ts.length:Int)) (by omega) (by omega)]at e2
      have hl:(ts.map toToken).length=ts.length:=List.length_map ..
      unfold laws_toOut.f
      rw[Option.bind_some,laws_toTokenS_eq ts (by omega) k (by omega),Option.bind_some]
      dsimp only
      rw[spec_WovenBlock_eq (ts.map toToken) (by omega) s n (by omega) f k (by omega),Option.bind_some,Option.bind_some,Option.bind_some]
      dsimp only
      rw[impl_WovenBlock_eq (ts.map toToken) (by omega) s n (by omega) f k (by omega),Option.bind_some,laws_eqOut_refl,Option.bind_some,if_pos rfl,bne_self_eq_false]
      obtain⟨K,rfl⟩:∃ K,k=K+1:=⟨k-1,by omega⟩
      rw[laws_FnExactWovenBlock.j0,if_neg (by decide),laws_toTokenS_eq ts (by omega) K (by omega),Option.bind_some,laws_eqTokenS_refl _ (by omega) K (by omega),Option.bind_some,if_pos rfl]
end Go.Proofs.Ytldiiicbgdfapaa.Pure
