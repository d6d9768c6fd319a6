/- The plain law of the stable sort: symMerge, rotate, insertion. -/
set_option linter.unusedVariables false
set_option linter.unusedSimpArgs false
namespace Go.Proofs.Ytldiiicbgdfapaa.SortMath
def Srt {α:Type} (f:α→Int) (l:List α):Prop:=l.Pairwise fun a b=>f a≤f b
def Same {α:Type} (f:α→Int) (l m:List α):Prop:=∀ w:Int,l.filter (fun a=>decide (f a=w))=m.filter (fun a=>decide (f a=w))
theorem Same.refl {α:Type} (f:α→Int) (l:List α):Same f l l:=fun _=>rfl
theorem Same.symm {α:Type} {f:α→Int} {l m:List α} (h:Same f l m):Same f m l:=fun w=>(h w).symm
theorem Same.trans {α:Type} {f:α→Int} {l m n:List α} (h:Same f l m) (g:Same f m n):Same f l n:=fun w=>(h w).trans (g w)
theorem Same.app {α:Type} {f:α→Int} {l m l' m':List α} (h:Same f l m) (g:Same f l' m'):Same f (l++l') (m++m'):=fun w=>by
  rw[List.filter_append,List.filter_append,h w,g w]
theorem Same.mem {α:Type} {f:α→Int} {l m:List α} (h:Same f l m) {a:α} (ha:a∈l):a∈m:=by
  have:a∈l.filter (fun b=>decide (f b=f a)):=List.mem_filter.mpr ⟨ha,by simp⟩
  rw[h]at this
  exact(List.mem_filter.mp this).1
theorem Same.swap {α:Type} {f:α→Int} {l m:List α} (h:∀ a∈l,∀ b∈m,f a≠f b):Same f (l++m) (m++l):=by
  intro w
  rw[List.filter_append,List.filter_append]
  by_cases e:l.filter (fun a=>decide (f a=w))=[]
  · rw[e];simp
  · have e2:m.filter (fun a=>decide (f a=w))=[]:=by
      rw[List.filter_eq_nil_iff]
      intro b hb hw
      apply e
      rw[List.filter_eq_nil_iff]
      intro a ha hw2
      exact h a ha b hb (by rw[of_decide_eq_true hw,of_decide_eq_true hw2])
    rw[e2];simp
theorem Srt.uniq {α:Type} {f:α→Int} (l:List α):∀ m:List α,Srt f l→Srt f m→Same f l m→l=m:=by
  induction l with
  | nil =>
    intro m _ _ h
    cases m with
    | nil=>rfl
    | cons b m=>exact absurd (h.symm.mem (List.mem_cons_self ..)) (by simp)
  | cons a l ih =>
    intro m hl hm h
    cases m with
    | nil=>exact absurd (h.mem (List.mem_cons_self ..)) (by simp)
    | cons b m =>
      have hl':=List.pairwise_cons.mp hl
      have hm':=List.pairwise_cons.mp hm
      have h1:f b≤f a:=by
        rcases List.mem_cons.mp (h.mem (List.mem_cons_self ..))with e|e
        · rw[e];exact Int.le_refl _
        · exact hm'.1 _ e
      have h2:f a≤f b:=by
        rcases List.mem_cons.mp (h.symm.mem (List.mem_cons_self ..))with e|e
        · rw[e];exact Int.le_refl _
        · exact hl'.1 _ e
      have e:f a=f b:=by omega
      have q:=h (f a)
      rw[List.filter_cons_of_pos (by simp),List.filter_cons_of_pos (by simp[e])]at q
      injection q with q1 q2
      subst q1
      rw[ih m hl'.2 hm'.2 fun w=>by
        by_cases hw:f a=w
        · subst hw;exact q2
        · have:=h w
          rw[List.filter_cons_of_neg (by simpa using hw),List.filter_cons_of_neg (by simpa using hw)]at this
          exact this]
theorem Srt.app {α:Type} {f:α→Int} {l m:List α} (hl:Srt f l) (hm:Srt f m) (h:∀ a∈l,∀ b∈m,f a≤f b):Srt f (l++m):=List.pairwise_append.mpr ⟨hl,hm,h⟩
theorem Srt.left {α:Type} {f:α→Int} {l m:List α} (h:Srt f (l++m)):Srt f l:=(List.pairwise_append.mp h).1
theorem Srt.right {α:Type} {f:α→Int} {l m:List α} (h:Srt f (l++m)):Srt f m:=(List.pairwise_append.mp h).2.1
theorem Srt.between {α:Type} {f:α→Int} {l m:List α} (h:Srt f (l++m)):∀ a∈l,∀ b∈m,f a≤f b:=(List.pairwise_append.mp h).2.2
theorem merge_step {α:Type} {f:α→Int} {X1 X2 Y1 Y2 R1 R2:List α} (hX:Srt f (X1++X2)) (hY:Srt f (Y1++Y2)) (h1:∀ a∈X1,∀ b∈Y2,f a≤f b) (h2:∀ a∈Y1,∀ b∈X2,f a<f b)
    (s1:Srt f R1) (s2:Srt f R2) (e1:Same f (X1++Y1) R1) (e2:Same f (X2++Y2) R2):Srt f (R1++R2)∧Same f (X1++X2++(Y1++Y2)) (R1++R2):=by
  constructor
  · refine s1.app s2 fun a ha b hb=>?_
    have ha':=e1.symm.mem ha
    have hb':=e2.symm.mem hb
    rcases List.mem_append.mp ha' with ha|ha <;> rcases List.mem_append.mp hb' with hb|hb
    · exact hX.between a ha b hb
    · exact h1 a ha b hb
    · exact Int.le_of_lt (h2 a ha b hb)
    · exact hY.between a ha b hb
  · refine Same.trans ?_ (e1.app e2)
    have:Same f (X2++Y1) (Y1++X2):=Same.swap fun a ha b hb=>by have:=h2 b hb a ha;omega
    have:=((Same.refl f X1).app this).app (Same.refl f Y2)
    simpa [List.append_assoc] using this
def lswp {α:Type} (l:List α) (i j:Nat):List α:=match l[i]?,l[j]? with
  | some x,some y=>(l.set i y).set j x
  | _,_=>l
theorem lswp_app {α:Type} (P Q R:List α) (x y:α):lswp (P++x :: (Q++y :: R)) P.length (P.length+1+Q.length)=P++y :: (Q++x :: R):=by
  unfold lswp
  have e1:(P++x :: (Q++y :: R))[P.length]? = some x:=by rw[List.getElem?_append_right (by omega)];simp
  have e2:(P++x :: (Q++y :: R))[P.length+1+Q.length]? = some y:=by
    rw[List.getElem?_append_right (by omega),show P.length+1+Q.length-P.length=Q.length+1 from by omega,List.getElem?_cons_succ,List.getElem?_append_right (by omega)];simp
  rw[e1,e2]
  simp only
  rw[List.set_append_right _ _ (by omega),Nat.sub_self,List.set_cons_zero,List.set_append_right _ _ (by omega),show P.length+1+Q.length-P.length=Q.length+1 from by omega,List.set_cons_succ,List.set_append_right _ _ (by omega),Nat.sub_self,List.set_cons_zero]
def swapR {α:Type}:Nat→List α→Nat→Nat→List α
  | 0,l,_,_=>l
  | n+1,l,a,b=>swapR n (lswp l a b) (a+1) (b+1)
theorem swapR_app {α:Type} (n:Nat):∀ (P X Q Y R:List α) (a b:Nat),X.length=n→Y.length=n→a=P.length→b=P.length+X.length+Q.length→swapR n (P++(X++(Q++(Y++R)))) a b=P++(Y++(Q++(X++R))):=by
  induction n with
  | zero =>
    intro P X Q Y R a b hX hY ha hb
    rw[List.length_eq_zero_iff.mp hX,List.length_eq_zero_iff.mp hY];rfl
  | succ n ih =>
    intro P X Q Y R a b hX hY ha hb
    cases X with
    | nil=>simp at hX
    | cons x X =>
      cases Y with
      | nil=>simp at hY
      | cons y Y =>
        simp only[List.length_cons]at hX hY hb
        rw[swapR]
        have:=lswp_app P (X++Q) (Y++R) x y
        rw[List.length_append]at this
        rw[ha,show b=P.length+1+(X.length+Q.length)from by omega]
        rw[show P++(x :: X++(Q++(y :: Y++R)))=P++x :: (X++Q++y :: (Y++R))from by simp,this]
        have g:=ih (P++[y]) X (Q++[x]) Y R (P.length+1) (P.length+1+(X.length+Q.length)+1) (by omega) (by omega) (by simp) (by simp;omega)
        rw[show P++y :: (X++Q++x :: (Y++R))=P++[y]++(X++(Q++[x]++(Y++R)))from by simp,g]
        simp
def rotR {α:Type}:Nat→List α→Nat→Nat→Nat→List α
  | 0,l,_,_,_=>l
  | k+1,l,m,i,j=>if i=j then swapR i l (m-i) m else if j<i then rotR k (swapR j l (m-i) m) m (i-j) j else rotR k (swapR i l (m-i) (m+j-i)) m i (j-i)
theorem rotR_app {α:Type} (k:Nat):∀ (P U V R:List α) (m i j:Nat),U.length=i→V.length=j→m=P.length+i→0<i→0<j→i+j≤k→rotR k (P++(U++(V++R))) m i j=P++(V++(U++R)):=by
  induction k with
  | zero=>intro P U V R m i j _ _ _ h1 h2 h;omega
  | succ k ih =>
    intro P U V R m i j hU hV hm h1 h2 hk
    rw[rotR]
    by_cases e:i=j
    · rw[if_pos e]
      have:=swapR_app i P U [] V R (m-i) m hU (by omega) (by omega) (by simp;omega)
      simpa using this
    · rw[if_neg e]
      by_cases g:j<i
      · rw[if_pos g]
        have hs:U=U.take j++U.drop j:=(List.take_append_drop j U).symm
        have l1:(U.take j).length=j:=by rw[List.length_take];omega
        have l2:(U.drop j).length=i-j:=by rw[List.length_drop];omega
        generalize U.take j=U1 at hs l1
        generalize U.drop j=U2 at hs l2
        subst hs
        have s:=swapR_app j P U1 U2 V R (m-i) m l1 hV (by omega) (by omega)
        have:=ih (P++V) U2 U1 R m (i-j) j l2 l1 (by simp;omega) (by omega) h2 (by omega)
        rw[show P++(U1++U2++(V++R))=P++(U1++(U2++(V++R)))from by simp,s,show P++(V++(U2++(U1++R)))=P++V++(U2++(U1++R))from by simp,this]
        simp
      · rw[if_neg g]
        have hs:V=V.take (j-i)++V.drop (j-i):=(List.take_append_drop _ V).symm
        have l1:(V.take (j-i)).length=j-i:=by rw[List.length_take];omega
        have l2:(V.drop (j-i)).length=i:=by rw[List.length_drop];omega
        generalize V.take (j-i)=V1 at hs l1
        generalize V.drop (j-i)=V2 at hs l2
        subst hs
        have s:=swapR_app i P U V1 V2 R (m-i) (m+j-i) hU l2 (by omega) (by omega)
        have:=ih P V2 V1 (U++R) m i (j-i) l2 l1 (by omega) h1 (by omega) (by omega)
        rw[show P++(U++(V1++V2++R))=P++(U++(V1++(V2++R)))from by simp,s,this]
        simp
def key {α:Type} (f:α→Int) (l:List α) (i:Nat):Int:=((l[i]?).map f).getD 0
theorem key_at {α:Type} (f:α→Int) (l:List α) (i:Nat) (h:i<l.length):key f l i=f l[i]:=by simp[key,h]
theorem key_left {α:Type} (f:α→Int) (l m:List α) (i:Nat) (h:i<l.length):key f (l++m) i=key f l i:=by
  unfold key;rw[List.getElem?_append_left h]
theorem key_right {α:Type} (f:α→Int) (l m:List α) (i j:Nat) (h:j=l.length+i):key f (l++m) j=key f m i:=by
  unfold key;rw[List.getElem?_append_right (by omega),h];congr 3;omega
theorem srt_key {α:Type} {f:α→Int} {l:List α} (h:Srt f l) (i j:Nat) (hij:i≤j) (hj:j<l.length):key f l i≤key f l j:=by
  rw[key_at f l i (by omega),key_at f l j hj]
  by_cases e:i=j
  · subst e;exact Int.le_refl _
  · exact(List.pairwise_iff_getElem.mp h) i j (by omega) hj (by omega)
theorem key_mem {α:Type} {f:α→Int} {l:List α} {a:α} (h:a∈l):∃ i,i<l.length∧key f l i=f a:=by
  obtain⟨i,hi,rfl⟩:=List.getElem_of_mem h
  exact⟨i,hi,key_at f l i hi⟩
def bsR (pr:Nat→Bool):Nat→Nat→Nat→Nat
  | 0,lo,_=>lo
  | k+1,lo,hi=>if lo<hi then(if pr ((lo+hi) / 2)=true then bsR pr k ((lo+hi) / 2+1) hi else bsR pr k lo ((lo+hi) / 2))else lo
theorem bsR_ok (pr:Nat→Bool) (k:Nat):∀ lo hi:Nat,lo≤hi→hi-lo≤k→(∀ c d,lo≤c→c≤d→d<hi→pr d=true→pr c=true)→
    lo≤bsR pr k lo hi∧bsR pr k lo hi≤hi∧(∀ c,lo≤c→c<bsR pr k lo hi→pr c=true)∧(∀ c,bsR pr k lo hi≤c→c<hi→pr c=false):=by
  induction k with
  | zero =>
    intro lo hi h1 h2 _
    exact⟨Nat.le_refl _,h1,fun c a b=>by rw[bsR]at b;omega,fun c a b=>by rw[bsR]at a;omega⟩
  | succ k ih =>
    intro lo hi h1 h2 hm
    rw[bsR]
    by_cases e:lo<hi
    · rw[if_pos e]
      obtain⟨c0,hc⟩:∃ c,c=(lo+hi) / 2:=⟨_,rfl⟩
      rw[← hc]
      by_cases g:pr c0=true
      · rw[if_pos g]
        obtain⟨r1,r2,r3,r4⟩:=ih (c0+1) hi (by omega) (by omega) (fun c d a b x y=>hm c d (by omega) b x y)
        refine⟨by omega,r2,fun c a b=>?_,r4⟩
        by_cases q:c≤c0
        · exact hm c c0 a q (by omega) g
        · exact r3 c (by omega) b
      · rw[if_neg g]
        obtain⟨r1,r2,r3,r4⟩:=ih lo c0 (by omega) (by omega) (fun c d a b x y=>hm c d a b (by omega) y)
        refine⟨r1,by omega,r3,fun c a b=>?_⟩
        by_cases q:c<c0
        · exact r4 c a q
        · cases hp:pr c with
          | false=>rfl
          | true=>exact absurd (hm c0 c (by omega) (by omega) b hp) g
    · rw[if_neg e]
      exact⟨Nat.le_refl _,h1,fun c a b=>by omega,fun c a b=>by omega⟩
def upR {α:Type}:Nat→List α→Nat→List α
  | 0,l,_=>l
  | n+1,l,i=>upR n (lswp l i (i+1)) (i+1)
theorem upR_app {α:Type} (n:Nat):∀ (P Y R:List α) (x:α) (i:Nat),Y.length=n→i=P.length→upR n (P++x :: (Y++R)) i=P++(Y++x :: R):=by
  induction n with
  | zero=>intro P Y R x i hY hi;rw[List.length_eq_zero_iff.mp hY];rfl
  | succ n ih =>
    intro P Y R x i hY hi
    cases Y with
    | nil=>simp at hY
    | cons y Y =>
      simp only[List.length_cons]at hY
      have s:=lswp_app P [] (Y++R) x y
      have:=ih (P++[y]) Y R x (P.length+1) (by omega) (by simp)
      rw[upR,hi]
      simp only[List.length_nil,Nat.add_zero,List.nil_append]at s
      rw[show P++x :: (y :: Y++R)=P++x :: y :: (Y++R)from by simp,s,show P++y :: x :: (Y++R)=P++[y]++x :: (Y++R)from by simp,this]
      simp
def downR {α:Type}:Nat→List α→Nat→List α
  | 0,l,_=>l
  | n+1,l,i=>downR n (lswp l (i-1) i) (i-1)
theorem downR_app {α:Type} (n:Nat):∀ (P Y R:List α) (x:α) (i:Nat),Y.length=n→i=P.length+n→downR n (P++(Y++x :: R)) i=P++x :: (Y++R):=by
  induction n with
  | zero=>intro P Y R x i hY hi;rw[List.length_eq_zero_iff.mp hY];rfl
  | succ n ih =>
    intro P Y R x i hY hi
    obtain⟨Z,y,rfl⟩:∃ Z y,Y=Z++[y]:=⟨Y.dropLast,Y.getLast (by intro h;rw[h]at hY;simp at hY),(List.dropLast_concat_getLast _).symm⟩
    simp only[List.length_append,List.length_cons,List.length_nil]at hY
    have s:=lswp_app (P++Z) [] R y x
    have:=ih P Z (y :: R) x (i-1) (by omega) (by omega)
    rw[downR]
    simp only[List.length_nil,Nat.add_zero,List.nil_append,List.length_append]at s
    rw[show i-1=P.length+Z.length from by omega,show i=P.length+Z.length+1 from by omega,show P++(Z++[y]++x :: R)=P++Z++y :: x :: R from by simp,s]
    rw[show i-1=P.length+Z.length from by omega]at this
    rw[show P++Z++x :: y :: R=P++(Z++x :: y :: R)from by simp,this]
    simp
def symR {α:Type} (f:α→Int):Nat→List α→Nat→Nat→Nat→List α
  | 0,l,_,_,_=>l
  | k+1,l,a,m,b =>
    if m-a=1 then upR (bsR (fun h=>decide (key f l h<key f l a)) (k+1) m b-1-a) l a
    else if b-m=1 then downR (m-bsR (fun h=>decide (key f l h≤key f l m)) (k+1) a m) l m
    else
      let mid:=(a+b) / 2
      let n:=mid+m
      let s:=bsR (fun c=>decide (key f l c≤key f l (n-1-c))) (k+1) (if mid<m then n-b else a) (if mid<m then mid else m)
      let e:=n-s
      let l1:=if s<m∧m<e then rotR (k+1) l m (m-s) (e-m)else l
      let l2:=if a<s∧s<mid then symR f k l1 a s mid else l1
      if mid<e∧e<b then symR f k l2 mid e b else l2
theorem cut_at {α:Type} (X:List α) (t:Nat) (h:t≤X.length):∃ X1 X2,X=X1++X2∧X1.length=t :=
  ⟨X.take t,X.drop t,(List.take_append_drop t X).symm,by rw[List.length_take];omega⟩
theorem symR_app {α:Type} (f:α→Int) (k:Nat):∀ (P X Y R:List α) (a m b:Nat),a=P.length→m=a+X.length→b=m+Y.length→0<X.length→0<Y.length→b-a≤k→Srt f X→Srt f Y→
    ∃ Z,symR f k (P++(X++(Y++R))) a m b=P++(Z++R)∧Z.length=X.length+Y.length∧Srt f Z∧Same f (X++Y) Z:=by
  induction k with
  | zero=>intro P X Y R a m b ha hm hb hX hY hk;omega
  | succ k ih =>
    intro P X Y R a m b ha hm hb hX hY hk sX sY
    have kX:∀ i c,i<X.length→c=a+i→key f (P++(X++(Y++R))) c=key f X i:=by
      intro i c hi hc
      rw[key_right f P _ i c (by omega),key_left f X _ i hi]
    have kY:∀ i c,i<Y.length→c=m+i→key f (P++(X++(Y++R))) c=key f Y i:=by
      intro i c hi hc
      rw[key_right f P _ (X.length+i) c (by omega),key_right f X _ i _ (by omega),key_left f Y _ i hi]
    rw[symR]
    by_cases c1:m-a=1
    · rw[if_pos c1]
      obtain⟨x,rfl⟩:∃ x,X=[x]:=List.length_eq_one_iff.mp (by omega)
      have ka:=kX 0 a (by simp) (by omega)
      have k0:key f [x] 0=f x:=by simp[key]
      obtain⟨r1,r2,r3,r4⟩:=bsR_ok (fun h=>decide (key f (P++([x]++(Y++R))) h<key f (P++([x]++(Y++R))) a)) (k+1) m b (by omega) (by omega) (by
        intro c d h1 h2 h3 h4
        simp only[decide_eq_true_eq]at h4 ⊢
        rw[kY (d-m) d (by omega) (by omega)]at h4
        rw[kY (c-m) c (by omega) (by omega)]
        have:=srt_key sY (c-m) (d-m) (by omega) (by omega)
        omega)
      generalize bsR (fun h=>decide (key f (P++([x]++(Y++R))) h<key f (P++([x]++(Y++R))) a)) (k+1) m b=s at r1 r2 r3 r4 ⊢
      obtain⟨Y1,Y2,rfl,l1⟩:=cut_at Y (s-m) (by omega)
      have u:=upR_app (s-1-a) P Y1 (Y2++R) x a (by simp at hm;omega) ha
      have q1:∀ z∈Y1,f z<f x:=by
        intro z hz
        obtain⟨i,hi,e⟩:=key_mem (f:=f) hz
        have:=r3 (m+i) (by omega) (by omega)
        simp only[decide_eq_true_eq]at this
        rw[kY i (m+i) (by simp;omega) rfl,ka,key_left f Y1 _ i hi]at this
        omega
      have q2:∀ z∈Y2,f x≤f z:=by
        intro z hz
        obtain⟨i,hi,e⟩:=key_mem (f:=f) hz
        have:=r4 (s+i) (by omega) (by simp at hb;omega)
        simp only[decide_eq_false_iff_not]at this
        rw[kY (Y1.length+i) (s+i) (by simp;omega) (by omega),ka,key_right f Y1 _ i _ rfl]at this
        omega
      obtain⟨t1,t2⟩:=merge_step (X1:=[]) (X2:=[x]) (R1:=Y1) (R2:=x :: Y2) (by simpa using sX) sY (by simp) (by intro p hp q hq;simp only[List.mem_singleton]at hq;subst hq;exact q1 p hp) sY.left (List.pairwise_cons.mpr ⟨q2,sY.right⟩) (Same.refl _ _) (Same.refl _ _)
      refine⟨Y1++x :: Y2,?_,by simp;omega,t1,by simpa using t2⟩
      rw[show P++([x]++(Y1++Y2++R))=P++x :: (Y1++(Y2++R))from by simp,u]
      simp
    · rw[if_neg c1]
      by_cases c2:b-m=1
      · rw[if_pos c2]
        obtain⟨y,rfl⟩:∃ y,Y=[y]:=List.length_eq_one_iff.mp (by omega)
        have km:=kY 0 m (by simp) (by omega)
        have k0:key f [y] 0=f y:=by simp[key]
        obtain⟨r1,r2,r3,r4⟩:=bsR_ok (fun h=>decide (key f (P++(X++([y]++R))) h≤key f (P++(X++([y]++R))) m)) (k+1) a m (by omega) (by omega) (by
          intro c d h1 h2 h3 h4
          simp only[decide_eq_true_eq]at h4 ⊢
          rw[kX (d-a) d (by omega) (by omega)]at h4
          rw[kX (c-a) c (by omega) (by omega)]
          have:=srt_key sX (c-a) (d-a) (by omega) (by omega)
          omega)
        generalize bsR (fun h=>decide (key f (P++(X++([y]++R))) h≤key f (P++(X++([y]++R))) m)) (k+1) a m=s at r1 r2 r3 r4 ⊢
        obtain⟨X1,X2,rfl,l1⟩:=cut_at X (s-a) (by omega)
        simp only[List.length_append]at hm hX
        have u:=downR_app (m-s) (P++X1) X2 R y m (by omega) (by simp;omega)
        have q1:∀ z∈X1,f z≤f y:=by
          intro z hz
          obtain⟨i,hi,e⟩:=key_mem (f:=f) hz
          have:=r3 (a+i) (by omega) (by omega)
          simp only[decide_eq_true_eq]at this
          rw[kX i (a+i) (by simp;omega) rfl,km,key_left f X1 _ i hi]at this
          omega
        have q2:∀ z∈X2,f y<f z:=by
          intro z hz
          obtain⟨i,hi,e⟩:=key_mem (f:=f) hz
          have:=r4 (s+i) (by omega) (by omega)
          simp only[decide_eq_false_iff_not]at this
          rw[kX (X1.length+i) (s+i) (by simp;omega) (by omega),km,key_right f X1 _ i _ rfl]at this
          omega
        obtain⟨t1,t2⟩:=merge_step (X1:=X1) (X2:=X2) (Y1:=[y]) (Y2:=[]) (R1:=X1++[y]) (R2:=X2) sX (by simpa using sY) (by simp) (by intro p hp q hq;simp only[List.mem_singleton]at hp;subst hp;exact q2 q hq) (sX.left.app (by simp[Srt]) (by intro p hp q hq;simp only[List.mem_singleton]at hq;subst hq;exact q1 p hp)) sX.right (Same.refl _ _) (by simpa using Same.refl f X2)
        refine⟨X1++[y]++X2,?_,by simp;omega,t1,by simpa using t2⟩
        rw[show P++(X1++X2++([y]++R))=P++X1++(X2++y :: R)from by simp,u]
        simp
      · rw[if_neg c2]
        simp only
        obtain⟨mid,hmid⟩:∃ mid,mid=(a+b) / 2:=⟨_,rfl⟩
        rw[← hmid]
        obtain⟨lo,hlo⟩:∃ lo,lo=if mid<m then mid+m-b else a:=⟨_,rfl⟩
        obtain⟨hi,hhi⟩:∃ hi,hi=if mid<m then mid else m:=⟨_,rfl⟩
        rw[← hlo,← hhi]
        have B:a≤lo∧lo≤hi∧hi≤m∧(∀ c,lo≤c→c<hi→m≤mid+m-1-c∧mid+m-1-c<b)∧(mid<m→lo=mid+m-b∧hi=mid)∧(¬mid<m→lo=a∧hi=m):=by
          by_cases g:mid<m
          · rw[if_pos g]at hlo hhi
            exact⟨by omega,by omega,by omega,fun c _ _=>by omega,fun _=>⟨hlo,hhi⟩,fun h=>absurd g h⟩
          · rw[if_neg g]at hlo hhi
            exact⟨by omega,by omega,by omega,fun c _ _=>by omega,fun h=>absurd h g,fun _=>⟨hlo,hhi⟩⟩
        obtain⟨B1,B2,B3,B4,B5,B6⟩:=B
        obtain⟨r1,r2,r3,r4⟩:=bsR_ok (fun c=>decide (key f (P++(X++(Y++R))) c≤key f (P++(X++(Y++R))) (mid+m-1-c))) (k+1) lo hi B2 (by omega) (by
          intro c d h1 h2 h3 h4
          simp only[decide_eq_true_eq]at h4 ⊢
          have b1:=B4 c h1 (by omega)
          have b2:=B4 d (by omega) h3
          rw[kX (d-a) d (by omega) (by omega),kY (mid+m-1-d-m) _ (by omega) (by omega)]at h4
          rw[kX (c-a) c (by omega) (by omega),kY (mid+m-1-c-m) _ (by omega) (by omega)]
          have:=srt_key sX (c-a) (d-a) (by omega) (by omega)
          have:=srt_key sY (mid+m-1-d-m) (mid+m-1-c-m) (by omega) (by omega)
          omega)
        generalize bsR (fun c=>decide (key f (P++(X++(Y++R))) c≤key f (P++(X++(Y++R))) (mid+m-1-c))) (k+1) lo hi=s at r1 r2 r3 r4 ⊢
        have E:m≤mid+m-s∧mid+m-s≤b:=by
          by_cases g:mid<m
          · have:=B5 g;omega
          · have:=B6 g;omega
        obtain⟨e,he⟩:∃ e,e=mid+m-s:=⟨_,rfl⟩
        rw[← he]at E ⊢
        obtain⟨X1,X2,rfl,l1⟩:=cut_at X (s-a) (by omega)
        obtain⟨Y1,Y2,rfl,l2⟩:=cut_at Y (e-m) (by omega)
        simp only[List.length_append]at hm hb hX hY kX kY
        have h1:∀ x∈X1,∀ y∈Y2,f x≤f y:=by
          intro x hx y hy
          obtain⟨i,hi1,e1⟩:=key_mem (f:=f) hx
          obtain⟨j,hj1,e2⟩:=key_mem (f:=f) hy
          have hs:lo<s:=by
            by_cases g:mid<m
            · have:=B5 g;omega
            · have:=B6 g;omega
          have p:=r3 (s-1) (by omega) (by omega)
          simp only[decide_eq_true_eq]at p
          rw[kX (s-1-a) (s-1) (by omega) (by omega),kY (e-m) _ (by omega) (by omega)]at p
          have p1:=srt_key sX i (s-1-a) (by omega) (by simp;omega)
          have p2:=srt_key sY (e-m) (Y1.length+j) (by omega) (by simp;omega)
          rw[key_left f X1 _ i hi1]at p1
          rw[key_right f Y1 _ j _ rfl]at p2
          omega
        have h2:∀ y∈Y1,∀ x∈X2,f y<f x:=by
          intro y hy x hx
          obtain⟨i,hi1,e1⟩:=key_mem (f:=f) hx
          obtain⟨j,hj1,e2⟩:=key_mem (f:=f) hy
          have hs:s<hi:=by
            by_cases g:mid<m
            · have:=B5 g;omega
            · have:=B6 g;omega
          have p:=r4 s (Nat.le_refl _) hs
          simp only[decide_eq_false_iff_not]at p
          rw[kX (s-a) s (by omega) (by omega),kY (e-1-m) _ (by omega) (by omega)]at p
          have p1:=srt_key sX (s-a) (X1.length+i) (by omega) (by simp;omega)
          have p2:=srt_key sY j (e-1-m) (by omega) (by simp;omega)
          rw[key_right f X1 _ i _ rfl]at p1
          rw[key_left f Y1 _ j hj1]at p2
          omega
        have L1:(if s<m∧m<e then rotR (k+1) (P++(X1++X2++(Y1++Y2++R))) m (m-s) (e-m)else P++(X1++X2++(Y1++Y2++R)))=P++(X1++(Y1++(X2++(Y2++R)))):=by
          by_cases g:s<m∧m<e
          · rw[if_pos g]
            have:=rotR_app (k+1) (P++X1) X2 Y1 (Y2++R) m (m-s) (e-m) (by omega) (by omega) (by simp;omega) (by omega) (by omega) (by omega)
            rw[show P++(X1++X2++(Y1++Y2++R))=P++X1++(X2++(Y1++(Y2++R)))from by simp,this]
            simp
          · rw[if_neg g]
            by_cases g1:s<m
            · have:Y1=[]:=List.length_eq_zero_iff.mp (by omega)
              subst this;simp
            · have:X2=[]:=List.length_eq_zero_iff.mp (by omega)
              subst this;simp
        rw[L1]
        obtain⟨Z1,z1,z2,z3,z4⟩:∃ Z1,(if a<s∧s<mid then symR f k (P++(X1++(Y1++(X2++(Y2++R))))) a s mid else P++(X1++(Y1++(X2++(Y2++R)))))=P++(Z1++(X2++(Y2++R)))∧Z1.length=X1.length+Y1.length∧Srt f Z1∧Same f (X1++Y1) Z1:=by
          by_cases g:a<s∧s<mid
          · rw[if_pos g]
            exact ih P X1 Y1 (X2++(Y2++R)) a s mid ha (by omega) (by omega) (by omega) (by omega) (by omega) sX.left sY.left
          · rw[if_neg g]
            by_cases g1:a<s
            · have:Y1=[]:=List.length_eq_zero_iff.mp (by omega)
              subst this
              exact⟨X1,by simp,by simp,sX.left,by simpa using Same.refl f X1⟩
            · have:X1=[]:=List.length_eq_zero_iff.mp (by omega)
              subst this
              exact⟨Y1,by simp,by simp,sY.left,by simpa using Same.refl f Y1⟩
        rw[z1]
        obtain⟨Z2,w1,w2,w3,w4⟩:∃ Z2,(if mid<e∧e<b then symR f k (P++(Z1++(X2++(Y2++R)))) mid e b else P++(Z1++(X2++(Y2++R))))=P++(Z1++(Z2++R))∧Z2.length=X2.length+Y2.length∧Srt f Z2∧Same f (X2++Y2) Z2:=by
          by_cases g:mid<e∧e<b
          · rw[if_pos g]
            obtain⟨Z2,w1,w2,w3,w4⟩:=ih (P++Z1) X2 Y2 R mid e b (by simp;omega) (by omega) (by omega) (by omega) (by omega) (by omega) sX.right sY.right
            exact⟨Z2,by rw[show P++(Z1++(X2++(Y2++R)))=P++Z1++(X2++(Y2++R))from by simp,w1];simp,w2,w3,w4⟩
          · rw[if_neg g]
            by_cases g1:mid<e
            · have:Y2=[]:=List.length_eq_zero_iff.mp (by omega)
              subst this
              exact⟨X2,by simp,by simp,sX.right,by simpa using Same.refl f X2⟩
            · have:X2=[]:=List.length_eq_zero_iff.mp (by omega)
              subst this
              exact⟨Y2,by simp,by simp,sY.right,by simpa using Same.refl f Y2⟩
        rw[w1]
        obtain⟨t1,t2⟩:=merge_step sX sY h1 h2 z3 w3 z4 w4
        exact⟨Z1++Z2,by simp,by simp;omega,t1,t2⟩
def insD {α:Type} (f:α→Int):Nat→List α→Nat→Nat→List α
  | 0,l,_,_=>l
  | k+1,l,a,j=>if a<j∧key f l j<key f l (j-1)then insD f k (lswp l (j-1) j) a (j-1)else l
theorem insD_app {α:Type} (f:α→Int) (n:Nat):∀ (k:Nat) (P X R:List α) (x:α) (a j:Nat),X.length=n→n<k→a=P.length→j=a+n→Srt f X→
    ∃ Z,insD f k (P++(X++x :: R)) a j=P++(Z++R)∧Z.length=n+1∧Srt f Z∧Same f (X++[x]) Z:=by
  induction n with
  | zero =>
    intro k P X R x a j hX hk ha hj sX
    obtain⟨k,rfl⟩:∃ m,k=m+1:=⟨k-1,by omega⟩
    rw[List.length_eq_zero_iff.mp hX,insD,if_neg (by omega)]
    exact⟨[x],by simp,rfl,by simp[Srt],Same.refl _ _⟩
  | succ n ih =>
    intro k P X R x a j hX hk ha hj sX
    obtain⟨k,rfl⟩:∃ m,k=m+1:=⟨k-1,by omega⟩
    obtain⟨X',y,rfl⟩:∃ Z y,X=Z++[y]:=⟨X.dropLast,X.getLast (by intro h;rw[h]at hX;simp at hX),(List.dropLast_concat_getLast _).symm⟩
    simp only[List.length_append,List.length_cons,List.length_nil]at hX
    have kj:key f (P++(X'++[y]++x :: R)) j=f x:=by
      rw[key_right f P _ (X'.length+1) j (by omega),key_right f (X'++[y]) _ 0 _ (by simp)];simp[key]
    have kj1:key f (P++(X'++[y]++x :: R)) (j-1)=f y:=by
      rw[key_right f P _ X'.length (j-1) (by omega),List.append_assoc,key_right f X' _ 0 _ (by simp)];simp[key]
    have yb:=sX.between
    rw[insD,kj,kj1]
    by_cases c:f x<f y
    · rw[if_pos ⟨by omega,c⟩]
      have s:=lswp_app (P++X') [] R y x
      simp only[List.length_nil,Nat.add_zero,List.nil_append,List.length_append]at s
      rw[show j-1=P.length+X'.length from by omega,show j=P.length+X'.length+1 from by omega,show P++(X'++[y]++x :: R)=P++X'++y :: x :: R from by simp,s]
      obtain⟨Z,z1,z2,z3,z4⟩:=ih k P X' (y :: R) x a (P.length+X'.length) (by omega) (by omega) ha (by omega) sX.left
      rw[show P++X'++x :: y :: R=P++(X'++x :: (y :: R))from by simp,z1]
      refine⟨Z++[y],by simp,by simp;omega,z3.app (by simp[Srt]) ?_,?_⟩
      · intro p hp q hq
        simp only[List.mem_singleton]at hq
        subst hq
        rcases List.mem_append.mp (z4.symm.mem hp)with h|h
        · exact yb p h q (by simp)
        · simp only[List.mem_singleton]at h;subst h;omega
      · have e1:Same f ([y]++[x]) ([x]++[y]):=Same.swap fun p hp q hq=>by
          simp only[List.mem_singleton]at hp hq;subst hp;subst hq;omega
        have:=(Same.refl f X').app e1
        have:=this.trans (by rw[← List.append_assoc];exact z4.app (Same.refl f [y]))
        simpa using this
    · rw[if_neg (fun h=>c h.2)]
      refine⟨X'++[y]++[x],by simp,by simp;omega,sX.app (by simp[Srt]) ?_,Same.refl _ _⟩
      intro p hp q hq
      simp only[List.mem_singleton]at hq
      subst hq
      rcases List.mem_append.mp hp with h|h
      · have:=yb p h y (by simp);omega
      · simp only[List.mem_singleton]at h;subst h;omega
def insR {α:Type} (f:α→Int):Nat→List α→Nat→Nat→Nat→List α
  | 0,l,_,_,_=>l
  | k+1,l,a,b,i=>if i<b then insR f k (insD f k l a i) a b (i+1)else l
theorem insR_app {α:Type} (f:α→Int) (n:Nat):∀ (k:Nat) (P X Y R:List α) (a b i:Nat),Y.length=n→X.length+2*n<k→a=P.length→i=a+X.length→b=i+n→Srt f X→
    ∃ Z,insR f k (P++(X++(Y++R))) a b i=P++(Z++R)∧Z.length=X.length+n∧Srt f Z∧Same f (X++Y) Z:=by
  induction n with
  | zero =>
    intro k P X Y R a b i hY hk ha hi hb sX
    obtain⟨k,rfl⟩:∃ m,k=m+1:=⟨k-1,by omega⟩
    rw[List.length_eq_zero_iff.mp hY,insR,if_neg (by omega)]
    exact⟨X,by simp,by simp,sX,by simpa using Same.refl f X⟩
  | succ n ih =>
    intro k P X Y R a b i hY hk ha hi hb sX
    obtain⟨k,rfl⟩:∃ m,k=m+1:=⟨k-1,by omega⟩
    cases Y with
    | nil=>simp at hY
    | cons y Y =>
      simp only[List.length_cons]at hY
      rw[insR,if_pos (by omega)]
      obtain⟨Z,z1,z2,z3,z4⟩:=insD_app f X.length k P X (Y++R) y a i rfl (by omega) ha hi sX
      rw[show P++(X++(y :: Y++R))=P++(X++y :: (Y++R))from by simp,z1]
      obtain⟨W,w1,w2,w3,w4⟩:=ih k P Z Y R a b (i+1) (by omega) (by omega) ha (by omega) (by omega) z3
      refine⟨W,w1,by omega,w3,?_⟩
      have:=(z4.app (Same.refl f Y)).trans w4
      simpa using this
def Ck {α:Type} (f:α→Int) (bs:Nat):List (List α)→Prop
  | []=>True
  | [c]=>Srt f c∧c.length≤bs
  | c :: d :: cs=>Srt f c∧c.length=bs∧Ck f bs (d :: cs)
theorem Ck.tail {α:Type} {f:α→Int} {bs:Nat} {c:List α} {cs:List (List α)} (h:Ck f bs (c :: cs)):Srt f c∧c.length≤bs∧Ck f bs cs∧(cs≠[]→c.length=bs):=by
  cases cs with
  | nil=>exact⟨h.1,h.2,trivial,fun h=>absurd rfl h⟩
  | cons d cs=>exact⟨h.1,by have:=h.2.1;omega,h.2.2,fun _=>h.2.1⟩
theorem Ck.cons {α:Type} {f:α→Int} {bs:Nat} {c:List α} {cs:List (List α)} (h:Ck f bs cs) (s:Srt f c) (l:c.length=bs):Ck f bs (c :: cs):=by
  cases cs with
  | nil=>exact⟨s,by omega⟩
  | cons d cs=>exact⟨s,l,h⟩
theorem Ck.one {α:Type} {f:α→Int} {bs:Nat} (cs:List (List α)) (h:Ck f bs cs) (hl:cs.flatten.length≤bs):Srt f cs.flatten:=by
  cases cs with
  | nil=>simp[Srt]
  | cons c cs =>
    obtain⟨t1,t2,t3,t4⟩:=h.tail
    by_cases e:cs=[]
    · subst e;simpa using t1
    · have:=t4 e
      rw[List.flatten_cons,List.length_append]at hl
      have:cs.flatten=[]:=List.length_eq_zero_iff.mp (by omega)
      rw[List.flatten_cons,this,List.append_nil];exact t1
def blkR {α:Type} (f:α→Int) (bs:Nat):Nat→List α→Nat→List α
  | 0,l,_=>l
  | k+1,l,a=>if a+bs≤l.length then blkR f bs k (insR f (2*bs+2) l a (a+bs) (a+1)) (a+bs)else insR f (2*bs+2) l a l.length (a+1)
theorem insR_seg {α:Type} (f:α→Int) (k:Nat) (P X R:List α) (a b:Nat) (ha:a=P.length) (hb:b=a+X.length) (hk:2*X.length+1<k):∃ Z,insR f k (P++(X++R)) a b (a+1)=P++(Z++R)∧Z.length=X.length∧Srt f Z∧Same f X Z:=by
  cases X with
  | nil =>
    obtain⟨k,rfl⟩:∃ m,k=m+1:=⟨k-1,by omega⟩
    simp only[List.length_nil]at hb
    rw[insR,if_neg (by omega)]
    exact⟨[],rfl,rfl,by simp[Srt],Same.refl _ _⟩
  | cons x X =>
    simp only[List.length_cons]at hb hk
    obtain⟨Z,z1,z2,z3,z4⟩:=insR_app f X.length k P [x] X R a b (a+1) rfl (by simp;omega) ha (by simp) (by omega) (by simp[Srt])
    refine⟨Z,?_,by simp at z2 ⊢;omega,z3,by simpa using z4⟩
    rw[← z1];simp
theorem blkR_app {α:Type} (f:α→Int) (bs:Nat) (k:Nat):∀ (P X:List α) (a:Nat),a=P.length→X.length<k*bs→∃ cs,blkR f bs k (P++X) a=P++cs.flatten∧Ck f bs cs∧Same f X cs.flatten∧cs.flatten.length=X.length:=by
  induction k with
  | zero=>intro P X a _ h;omega
  | succ k ih =>
    intro P X a ha hk
    rw[Nat.succ_mul]at hk
    rw[blkR]
    by_cases c:a+bs≤(P++X).length
    · rw[if_pos c]
      rw[List.length_append]at c
      obtain⟨X1,X2,rfl,l1⟩:=cut_at X bs (by omega)
      obtain⟨Z,z1,z2,z3,z4⟩:=insR_seg f (2*bs+2) P X1 X2 a (a+bs) ha (by omega) (by omega)
      rw[z1]
      simp only[List.length_append]at hk
      obtain⟨cs,c1,c2,c3,c4⟩:=ih (P++Z) X2 (a+bs) (by simp;omega) (by omega)
      refine⟨Z :: cs,?_,c2.cons z3 (by omega),?_,?_⟩
      · rw[show P++(Z++X2)=P++Z++X2 from by simp,c1];simp
      · rw[List.flatten_cons];exact z4.app c3
      · rw[List.flatten_cons,List.length_append,c4,List.length_append,z2]
    · rw[if_neg c]
      rw[List.length_append]at c
      obtain⟨Z,z1,z2,z3,z4⟩:=insR_seg f (2*bs+2) P X [] a (P++X).length ha (by simp;omega) (by omega)
      rw[List.append_nil,List.append_nil]at z1
      rw[z1]
      exact⟨[Z],by simp,⟨z3,by omega⟩,by simpa using z4,by simp[z2]⟩
def mrgR {α:Type} (f:α→Int) (bs:Nat):Nat→List α→Nat→List α
  | 0,l,_=>l
  | k+1,l,a=>if a+2*bs≤l.length then mrgR f bs k (symR f (2*bs) l a (a+bs) (a+2*bs)) (a+2*bs)else if a+bs<l.length then symR f (2*bs) l a (a+bs) l.length else l
theorem mrgR_app {α:Type} (f:α→Int) (bs:Nat) (h0:0<bs) (k:Nat):∀ (cs:List (List α)) (P:List α) (a:Nat),a=P.length→cs.flatten.length<k*(2*bs)→Ck f bs cs→∃ ds,mrgR f bs k (P++cs.flatten) a=P++ds.flatten∧Ck f (2*bs) ds∧Same f cs.flatten ds.flatten∧ds.flatten.length=cs.flatten.length:=by
  induction k with
  | zero=>intro cs P a _ h;omega
  | succ k ih =>
    intro cs P a ha hk hc
    rw[Nat.succ_mul]at hk
    rw[mrgR]
    have fin:cs.flatten.length≤bs→∃ ds,P++cs.flatten=P++ds.flatten∧Ck f (2*bs) ds∧Same f cs.flatten ds.flatten∧ds.flatten.length=cs.flatten.length:=fun h =>
      ⟨[cs.flatten],by simp,⟨hc.one cs h,by omega⟩,by simpa using Same.refl f cs.flatten,by simp⟩
    by_cases c:a+2*bs≤(P++cs.flatten).length
    · rw[if_pos c]
      rw[List.length_append]at c
      cases cs with
      | nil=>simp at c;omega
      | cons c1 cs =>
        obtain⟨t1,t2,t3,t4⟩:=hc.tail
        cases cs with
        | nil=>simp at c;omega
        | cons c2 cs =>
          have l1:=t4 (by simp)
          obtain⟨u1,u2,u3,u4⟩:=t3.tail
          simp only[List.flatten_cons,List.length_append]at c hk
          have l2:c2.length=bs:=by
            by_cases e:cs=[]
            · subst e;simp at c;omega
            · exact u4 e
          obtain⟨Z,z1,z2,z3,z4⟩:=symR_app f (2*bs) P c1 c2 cs.flatten a (a+bs) (a+2*bs) ha (by omega) (by omega) (by omega) (by omega) (by omega) t1 u1
          simp only[List.flatten_cons]
          rw[z1]
          obtain⟨ds,d1,d2,d3,d4⟩:=ih cs (P++Z) (a+2*bs) (by simp;omega) (by omega) u3
          refine⟨Z :: ds,?_,d2.cons z3 (by omega),?_,?_⟩
          · rw[show P++(Z++cs.flatten)=P++Z++cs.flatten from by simp,d1];simp
          · rw[List.flatten_cons,← List.append_assoc];exact z4.app d3
          · simp only[List.flatten_cons,List.length_append];omega
    · rw[if_neg c]
      rw[List.length_append]at c
      by_cases g:a+bs<(P++cs.flatten).length
      · rw[if_pos g]
        rw[List.length_append]at g ⊢
        cases cs with
        | nil=>simp at g;omega
        | cons c1 cs =>
          obtain⟨t1,t2,t3,t4⟩:=hc.tail
          cases cs with
          | nil=>simp at g;omega
          | cons c2 cs =>
            have l1:=t4 (by simp)
            obtain⟨u1,u2,u3,u4⟩:=t3.tail
            simp only[List.flatten_cons,List.length_append]at c g hk ⊢
            have l3:cs.flatten=[]:=by
              by_cases e:cs=[]
              · subst e;rfl
              · have:=u4 e
                exact List.length_eq_zero_iff.mp (by omega)
            rw[l3,List.length_nil]at c g
            obtain⟨Z,z1,z2,z3,z4⟩:=symR_app f (2*bs) P c1 c2 [] a (a+bs) (P.length+(c1.length+(c2.length+0))) ha (by omega) (by omega) (by omega) (by omega) (by omega) t1 u1
            rw[l3,List.length_nil,z1]
            exact⟨[Z],by simp,⟨z3,by omega⟩,by simpa using z4,by simp;omega⟩
      · rw[if_neg g]
        rw[List.length_append]at g
        exact fin (by omega)
def stabR {α:Type} (f:α→Int):Nat→List α→Nat→List α
  | 0,l,_=>l
  | k+1,l,bs=>if bs<l.length then stabR f k (mrgR f bs (l.length+1) l 0) (2*bs)else l
theorem stabR_ok {α:Type} (f:α→Int) (k:Nat):∀ (cs:List (List α)) (bs:Nat),0<bs→Ck f bs cs→cs.flatten.length<k+bs→Srt f (stabR f k cs.flatten bs)∧Same f cs.flatten (stabR f k cs.flatten bs):=by
  induction k with
  | zero =>
    intro cs bs h0 hc hl
    exact⟨hc.one cs (by omega),Same.refl _ _⟩
  | succ k ih =>
    intro cs bs h0 hc hl
    rw[stabR]
    by_cases c:bs<cs.flatten.length
    · rw[if_pos c]
      obtain⟨ds,d1,d2,d3,d4⟩:=mrgR_app f bs h0 (cs.flatten.length+1) cs [] 0 rfl (by
        have:(cs.flatten.length+1)*1≤(cs.flatten.length+1)*(2*bs):=Nat.mul_le_mul_left _ (by omega)
        omega) hc
      rw[List.nil_append,List.nil_append]at d1
      rw[d1]
      obtain⟨s1,s2⟩:=ih ds (2*bs) (by omega) d2 (by omega)
      exact⟨s1,d3.trans s2⟩
    · rw[if_neg c]
      exact⟨hc.one cs (by omega),Same.refl _ _⟩
end Go.Proofs.Ytldiiicbgdfapaa.SortMath
