/- Walks of functions that the law reaches: each call comes to what the Lean function of its name tells. -/
import Derived.Test.YtldiiicbgdfapaaPFnExactWovenBlockx18
namespace Go.Proofs.Ytldiiicbgdfapaa.PFnExactWovenBlock
open Go.RowKit Go.Proofs.YtldiiicbgdfapaaW.PrintWords Go.Proofs.YtldiiicbgdfapaaW.PrintLast Go.Proofs.YtldiiicbgdfapaaW.PrintMore
attribute [local go_sem] max2_int min2_int max_two min_two max_three min_three max_four min_four
set_option linter.unusedVariables false
set_option maxHeartbeats 8000000
set_option maxRecDepth 100000
set_option linter.unusedSimpArgs false
def BookB (w:World) (g:Nat) (c f:Nat→Int) (v:Value) (s:Int):Prop:=∃ cells:Array Value,w.heap[g]? = some (.cells cells 123 (0,0))∧cells.size=34∧(∀ j,j<16→cells[j]? = some (.int .i64 (c j)))∧(∀ j,j<16→cells[16+j]? = some (.int .i64 (f j)))∧cells[32]? = some v∧cells[33]? = some (.int .i64 s)
section
variable {w w1:World} {g:Nat} {c f:Nat→Int} {v:Value} {s:Int}
theorem BookB.lt (h:BookB w g c f v s):g<w.heap.size:=by obtain⟨_,hb,_⟩:=h;exact blk_lt hb
theorem BookB.keep (h:BookB w g c f v s) (hk:w1.heap[g]? = w.heap[g]?):BookB w1 g c f v s:=by
  obtain⟨cells,hb,r⟩:=h
  exact⟨cells,hk.trans hb,r⟩
theorem BookB.below (h:BookB w g c f v s) (hb:Below w.heap.size w w1):BookB w1 g c f v s:=h.keep (hb.block g h.lt)
theorem BookB.drew (h:BookB w g c f v s):BookB w.drew g c f v s:=h
theorem BookB.cellc (h:BookB w g c f v s) (j:Nat) (hj:j<16):w.cell? ⟨g,j,none⟩=some (.int .i64 (c j)):=by
  obtain⟨cells,hb,_,hc,_⟩:=h
  exact(blk_cell hb j).trans (hc j hj)
theorem BookB.cellf (h:BookB w g c f v s) (j:Nat) (hj:j<16):w.cell? ⟨g,16+j,none⟩=some (.int .i64 (f j)):=by
  obtain⟨cells,hb,_,_,hf,_⟩:=h
  exact(blk_cell hb (16+j)).trans (hf j hj)
theorem BookB.cellv (h:BookB w g c f v s):w.cell? ⟨g,32,none⟩=some v:=by
  obtain⟨cells,hb,_,_,_,hv,_⟩:=h
  exact(blk_cell hb 32).trans hv
theorem BookB.cells (h:BookB w g c f v s):w.cell? ⟨g,33,none⟩=some (.int .i64 s):=by
  obtain⟨cells,hb,_,_,_,_,hs⟩:=h
  exact(blk_cell hb 33).trans hs
theorem BookB.free (h:BookB w g c f v s) (j:Nat):w.frozen? ⟨g,j,none⟩=false:=by
  obtain⟨cells,hb,_⟩:=h
  exact zS hb j
theorem BookB.setc (h:BookB w g c f v s) (j:Nat) (hj:j<16) (x:Int):BookB (w.setCell ⟨g,j,none⟩ (.int .i64 x)) g (fun i=>if i=j then x else c i) f v s:=by
  obtain⟨cells,hb,h0,hc,hf,hv,hs⟩:=h
  refine⟨cells.setIfInBounds j (.int .i64 x),by simpa using blk_set hb j (.int .i64 x),by simp[h0],fun i hi=>?_,fun i hi=>?_,?_,?_⟩
  · rw[Array.getElem?_setIfInBounds]
    by_cases e:j=i
    · subst e;rw[if_pos rfl,if_pos (by omega)];simp
    · rw[if_neg e];simp only[if_neg (Ne.symm e)];exact hc i hi
  · rw[Array.getElem?_setIfInBounds,if_neg (by omega)];exact hf i hi
  · rw[Array.getElem?_setIfInBounds,if_neg (by omega)];exact hv
  · rw[Array.getElem?_setIfInBounds,if_neg (by omega)];exact hs
theorem BookB.setf (h:BookB w g c f v s) (j:Nat) (hj:j<16) (x:Int):BookB (w.setCell ⟨g,16+j,none⟩ (.int .i64 x)) g c (fun i=>if i=j then x else f i) v s:=by
  obtain⟨cells,hb,h0,hc,hf,hv,hs⟩:=h
  refine⟨cells.setIfInBounds (16+j) (.int .i64 x),by simpa using blk_set hb (16+j) (.int .i64 x),by simp[h0],fun i hi=>?_,fun i hi=>?_,?_,?_⟩
  · rw[Array.getElem?_setIfInBounds,if_neg (by omega)];exact hc i hi
  · rw[Array.getElem?_setIfInBounds]
    by_cases e:j=i
    · subst e;rw[if_pos rfl,if_pos (by omega)];simp
    · rw[if_neg (by omega)];simp only[if_neg (Ne.symm e)];exact hf i hi
  · rw[Array.getElem?_setIfInBounds,if_neg (by omega)];exact hv
  · rw[Array.getElem?_setIfInBounds,if_neg (by omega)];exact hs
theorem BookB.setv (h:BookB w g c f v s) (x:Value):BookB (w.setCell ⟨g,32,none⟩ x) g c f x s:=by
  obtain⟨cells,hb,h0,hc,hf,hv,hs⟩:=h
  refine⟨cells.setIfInBounds 32 x,by simpa using blk_set hb 32 x,by simp[h0],fun i hi=>?_,fun i hi=>?_,?_,?_⟩
  · rw[Array.getElem?_setIfInBounds,if_neg (by omega)];exact hc i hi
  · rw[Array.getElem?_setIfInBounds,if_neg (by omega)];exact hf i hi
  · rw[Array.getElem?_setIfInBounds,if_pos rfl,if_pos (by omega)]
  · rw[Array.getElem?_setIfInBounds,if_neg (by omega)];exact hs
theorem BookB.sets (h:BookB w g c f v s) (x:Int):BookB (w.setCell ⟨g,33,none⟩ (.int .i64 x)) g c f v x:=by
  obtain⟨cells,hb,h0,hc,hf,hv,hs⟩:=h
  refine⟨cells.setIfInBounds 33 (.int .i64 x),by simpa using blk_set hb 33 (.int .i64 x),by simp[h0],fun i hi=>?_,fun i hi=>?_,?_,?_⟩
  · rw[Array.getElem?_setIfInBounds,if_neg (by omega)];exact hc i hi
  · rw[Array.getElem?_setIfInBounds,if_neg (by omega)];exact hf i hi
  · rw[Array.getElem?_setIfInBounds,if_neg (by omega)];exact hv
  · rw[Array.getElem?_setIfInBounds,if_pos rfl,if_pos (by omega)]
theorem BookB.ne_row {e base:Nat} {ok:Nat→Prop} {u:Value} {xs:List Int} (h:BookB w g c f v s) (ho:Kd.R (Kd.int .i64) e w base ok u xs) (ht:e≠123):some g≠u.ownBlock:=by
  obtain⟨cells,hb,_⟩:=h
  exact zt ho hb ht
end
theorem BookB.row_set {w:World} {g e base j:Nat} {c f:Nat→Int} {v u x:Value} {s:Int} {ok:Nat→Prop} {xs:List Int} (h:BookB w g c f v s) (ho:Kd.R (Kd.int .i64) e w base ok u xs) (ht:e≠123):Kd.R (Kd.int .i64) e (w.setCell ⟨g,j,none⟩ x) base ok u xs:=by
  obtain⟨cells,hb,_⟩:=h
  exact Kd.R_set ho hb (fun q hq=>by
    rcases List.mem_cons.mp hq with rfl|hq
    · exact ht
    · cases hq) j x
theorem cntB_bd (xs:List Int) (n:Nat):0≤cntB xs n∧cntB xs n≤xs.length:=by
  unfold cntB
  split
  · omega
  · have:=List.count_le_length (a:=(n:Int)) (l:=xs);omega
theorem fstB_bd (xs:List Int) (h:xs.length≤1000000) (n:Nat):0≤fstB xs n∧fstB xs n≤2000000*2 ^ n-2000000:=by
  induction n with
  | zero=>simp[fstB]
  | succ n ih =>
    have:=cntB_bd xs n
    rw[fstB,Int.pow_succ]
    generalize (2:Int) ^ n=z at ih ⊢
    omega
theorem p2_bd (n:Nat) (h:n≤15):(1:Int)≤2 ^ n∧(2:Int) ^ n≤32768:=by
  have h1:(1:Nat)≤2 ^ n:=Nat.one_le_two_pow
  have h2:(2:Nat) ^ n≤2 ^ 15:=Nat.pow_le_pow_right (by decide) h
  have e:((2 ^ n:Nat):Int)=(2:Int) ^ n:=by simp
  rw[← e]
  have:(2:Nat) ^ 15=32768:=by decide
  omega
theorem sumB_bd (xs:List Int) (h:xs.length≤1000000) (n:Nat) (hn:n≤15):0≤sumB xs n∧sumB xs n≤32768000000*n:=by
  induction n with
  | zero=>simp[sumB]
  | succ n ih =>
    obtain⟨i1,i2⟩:=ih (by omega)
    obtain⟨c1,c2⟩:=cntB_bd xs (n+1)
    obtain⟨p1,p2⟩:=p2_bd (15-(n+1)) (by omega)
    rw[sumB]
    generalize (2:Int) ^ (15-(n+1))=z at p1 p2 ⊢
    have q1:0≤cntB xs (n+1)*z:=Int.mul_nonneg c1 (by omega)
    have q2:cntB xs (n+1)*z≤1000000*32768:=Int.le_trans (Int.mul_le_mul_of_nonneg_right (b:=1000000) (by omega) (by omega)) (Int.mul_le_mul_of_nonneg_left p2 (by decide))
    push_cast
    omega
theorem symB_bd (xs:List Int) (n:Nat):0≤symB xs n∧symB xs n≤(xs.length:Int)*n:=by
  induction n with
  | zero=>simp[symB]
  | succ n ih =>
    have:=cntB_bd xs (n+1)
    rw[symB]
    push_cast
    rw[Int.mul_add]
    omega
theorem BookB.congr {w:World} {g:Nat} {c f c' f':Nat→Int} {v:Value} {s:Int} (h:BookB w g c f v s) (hc:∀ j,j<16→c' j=c j) (hf:∀ j,j<16→f' j=f j):BookB w g c' f' v s:=by
  obtain⟨cells,hb,h0,h1,h2,h3,h4⟩:=h
  exact⟨cells,hb,h0,fun j hj=>by rw[hc j hj];exact h1 j hj,fun j hj=>by rw[hf j hj];exact h2 j hj,h3,h4⟩
def cnB (xs:List Int) (n:Nat) (q:Int) (j:Nat):Int:=if j<n then cntB xs j else if j=n then q else 0
def fsB (xs:List Int) (n:Nat) (j:Nat):Int:=if j<n then fstB xs j else 0
theorem cnB_set (l0:List Int) (m:Nat) (q:Int):∀ j,j<16→cnB l0 m (q+1) j=(fun i=>if i=m then q+1 else cnB l0 m q i) j:=by
  intro j _
  simp only[cnB]
  split <;> (try split) <;> (try split) <;> first|rfl|omega
theorem cnB_next (l0:List Int) (m:Nat):∀ j,j<16→cnB l0 (m+1) 0 j=cnB l0 m (cntB l0 m) j:=by
  intro j _
  simp only[cnB]
  by_cases h1:j<m
  · rw[if_pos (by omega),if_pos h1]
  · by_cases h2:j=m
    · subst h2
      rw[if_pos (by omega),if_neg h1,if_pos rfl]
    · rw[if_neg (by omega),if_neg h1,if_neg h2];split <;> rfl
theorem fsB_set (l0:List Int) (m:Nat):∀ j,j<16→fsB l0 (m+1) j=(fun i=>if i=m then fstB l0 m else fsB l0 m i) j:=by
  intro j _
  simp only[fsB]
  by_cases h1:j<m
  · rw[if_pos (by omega),if_neg (by omega),if_pos h1]
  · by_cases h2:j=m
    · subst h2
      rw[if_pos (by omega),if_pos rfl]
    · rw[if_neg (by omega),if_neg h2,if_neg h1]
theorem BookB.new {w:World} {g:Nat} (l0:List Int) (h:w.heap[g]? = some (.cells (((Array.replicate 32 (Value.int .i64 0)).push (.slice none 0 0)).push (.int .i64 0)) 123 (0,0))):BookB w g (cnB l0 1 0) (fsB l0 1) (.slice none 0 0) 0:=by
  refine⟨_,h,by simp,fun j hj=>?_,fun j hj=>?_,by rw[Array.getElem?_push,if_neg (by simp),Array.getElem?_push,if_pos (by simp)],by rw[Array.getElem?_push,if_pos (by simp)]⟩
  · rw[Array.getElem?_push,if_neg (by simp;omega),Array.getElem?_push,if_neg (by simp;omega)]
    have:cnB l0 1 0 j=0:=by
      unfold cnB cntB
      split
      · rw[if_pos (by omega)]
      · split <;> rfl
    rw[this]
    rw[Array.getElem?_replicate,if_pos (by omega)]
  · rw[Array.getElem?_push,if_neg (by simp;omega),Array.getElem?_push,if_neg (by simp;omega)]
    have:fsB l0 1 j=0:=by
      unfold fsB
      split
      · rw[show j=0 by omega];rfl
      · rfl
    rw[this]
    rw[Array.getElem?_replicate,if_pos (by omega)]
theorem impl_bookOf.calls (A0:Option Addr) (c0:Nat) (l0:List Int) (w:World) (hr0:Kd.C (Kd.int .i64) w A0 l0.length l0) (hc0:l0.length≤c0) (hl:l0.length≤1000000) :
 Calls Try.prog 81 #[.slice A0 l0.length c0] w fun e w' => ∃ (g:Nat) (v:Value) (ss:List Int),e = .returned (.pointer (some ⟨g,0,none⟩))∧BookB w' g (cntB l0) (fstB l0) v (sumB l0 15)∧Kd.R (Kd.int .i64) 3 w' w.heap.size (fun _=>True) v ss∧(ss.length:Int)=symB l0 15∧w.heap.size≤g∧Below w.heap.size w w':=by
 have HR0:=aM hr0;have HC0:=aM hc0;have HL:=aM hl;have HB:=aM (zQ w.heap.size w);clear hr0 hc0 hl;go_enter Try.func81,Try.ntmps81
 go_wp2_with (first|((with_reducible refine gD 8 ?_);refine box_event ?hg (N:=8) ?hd (cs:=(((Array.replicate 32 (Value.int .i64 0)).push (.slice none 0 0)).push (.int .i64 0))) (t:=123) ?hr ?_;(case hd=>rfl);(case hg=>rfl);(case hr=>first|(go_simp;done)|(go_simp;rfl));intro gb hg w2 hbox hb;have BK:=aM (BookB.new l0 hbox);have HB2:=aM (below_step HB.out hb);have GB:=aM (show w.heap.size≤gb by rw[hg];exact zI _);clear HB;have HB:=HB2;clear HB2 hbox hb hg))
 go_loopg [4] 15 (fun kx v4 w' => ∃ (k m:Nat) (v:Value) (ss:List Int),v4 = .int .i64 (m:Int)∧Aside0 (m=k+1)∧Aside0 (kx+k=15)∧Aside0 (BookB w' gb (cnB l0 (k+1) 0) (fsB l0 (k+1)) v (sumB l0 k))∧Aside0 (Kd.R (Kd.int .i64) 3 w' w.heap.size (fun _=>True) v ss)∧Aside0 ((ss.length:Int)=symB l0 k)∧Aside0 (Below w.heap.size w w'))
 case atStart=>exact⟨0,1,_,[],rfl,⟨rfl⟩,⟨rfl⟩,BK,⟨Kd.R_nil _ _ _ _ _⟩,⟨rfl⟩,HB⟩
 case round =>
  clear BK HB;obtain⟨k,m,v,ss,rfl,HM,HK,BK,HO,HS,HB⟩:=hrel;have ⟨gk1,hgk1⟩:∃ x,x=gk:=⟨_,rfl⟩
  by_cases hm:m≤15
  · have hm1:decide ((m:Int)≤15)=true:=zN (by omega);have hm2:decide (m≤15)=true:=zN hm;have hwk:wrap64 ((m:Int)-1)=(k:Int):=by have:=HM.out;unfold wrap64;omega
    have hk1:=zB (show(k:Int)<16 by have:=HM.out;omega);have hk2:=zB (show(m:Int)<16 by omega);have hcf:wr.cell? ⟨gb,16+k,none⟩=some (.int .i64 (fstB l0 k)):=by
     have h:=BK.out.cellf k (by have:=HM.out;omega);unfold fsB at h
     rwa [if_pos (by omega)]at h
    have hcc:wr.cell? ⟨gb,k,none⟩=some (.int .i64 (cntB l0 k)):=by
     have h:=BK.out.cellc k (by have:=HM.out;omega);unfold cnB at h
     rwa [if_pos (by omega)]at h
    have hcg:=BK.out.cellf m (by omega);have hff:=BK.out.free (16+m);have hv5:wrap64 (2*wrap64 (fstB l0 k+cntB l0 k))=fstB l0 m:=by
     have h1:=fstB_bd l0 HL.out k;have h2:=cntB_bd l0 k;have h3:=p2_bd k (by have:=HM.out;omega);have hL:=HL.out
     rw[HM.out,fstB];unfold wrap64
     omega
    have HMM:=aM hm;clear hm;go_wp2
    refine start_ (n:=22) (S:=fun w'=>w'.cell? ⟨gb,16+k,none⟩=some (.int .i64 (fstB l0 k))∧w'.cell? ⟨gb,k,none⟩=some (.int .i64 (cntB l0 k))) (ds:=[21]) (bAr 22 0) (by kernel_rfl) rfl rfl ⟨hcf,hcc⟩ (fun hHeld=>?_)
    refine pX 0 13 (bAr 22 1) ?_
    refine pX 1 14 (bAr 22 3) ?_
    refine pX 2 15 (bAr 22 7) ?_
    refine pX 3 16 (bAr 22 15) ?_
    refine pX 4 17 (bAr 22 31) ?_
    refine pX 5 18 (bAr 22 63) ?_
    refine pX 6 19 (bAr 22 127) ?_
    refine pX 7 20 (bAr 22 255) ?_
    refine tK 8 21 (bAr 22 511) ?_
    refine pX 9 22 (bAr 22 1023) ?_
    refine pX 10 23 (bAr 22 2047) ?_
    refine pX 11 24 (bAr 22 4095) ?_
    refine pX 12 25 (bAr 22 8191) ?_
    refine pX 13 26 (bAr 22 16383) ?_
    refine pX 14 27 (bAr 22 32767) ?_
    refine tK 15 28 (bAr 22 65535) ?_
    refine pX 16 29 (bAr 22 131071) ?_
    refine pX 17 30 (bAr 22 262143) ?_
    refine pX 18 31 (bAr 22 524287) ?_
    refine pX 19 32 (bAr 22 1048575) ?_
    refine pX 20 33 (bAr 22 2097151) ?_
    refine last_ (i:=21) (N:=none) (bAr 22 4194303) rfl rfl (by kernel_rfl) (by decide) (fun K hK=>?_)
    refine skip_ (w1:=?_) (by rfl) rfl ?_ ?_;rotate_left
    · go_simp
      rfl
    refine hK.out _ _ ?_;clear hK K
    refine done_ (by kernel_rfl) ?_;clear hcf hcc hcg hff hv5 hwk hk1;go_wp2
    go_loopg [36] l0.length (fun kx v36 w' => ∃ (i q:Nat) (v1:Value) (s1:List Int) (sq:Int),v36 = .int .i64 (i:Int)∧Aside0 (i+kx=l0.length)∧Aside0 (q=(l0.take i).count (m:Int))∧Aside0 (sq=sumB l0 k+q*2 ^ (15-m))∧Aside0 (BookB w' gb (cnB l0 m q) (fsB l0 (m+1)) v1 sq)∧Aside0 (Kd.R (Kd.int .i64) 3 w' w.heap.size (fun _=>True) v1 s1)∧Aside0 ((s1.length:Int)=symB l0 k+q)∧Aside0 (Below w.heap.size w w'))
    case atStart =>
     refine⟨0,0,v,ss,sumB l0 k,rfl,⟨by simp⟩,⟨by simp⟩,⟨by simp⟩,⟨?_⟩,⟨?_⟩,⟨by simpa using HS.out⟩,⟨?_⟩⟩
     · have hm:=HM.out;have hmm:=HMM.out;subst hm
       refine BookB.congr (BookB.setf BK.out (k+1) (by omega) (fstB l0 (k+1))) (fun j _=>rfl) (fsB_set l0 (k+1))
     · (with_reducible repeat (first|apply zo|apply zk|apply zW));exact BookB.row_set BK.out HO.out (by decide)
     · (repeat (first|(with_reducible first|exact HB.out|apply zz|apply zx|apply zy|refine below_set ?_ GB.out)|exact HB.out))
    case round =>
     clear BK HO HB;obtain⟨i,q,v1,s1,sq,rfl,HI,HQ,HSQ,BK,HO,HS1,HB⟩:=hrel
     by_cases hi:i<l0.length
     · have hi1:decide ((i:Int)<(l0.length:Int))=true:=zN (by omega);have hi2:decide (i<l0.length)=true:=zN hi;have pi:0≤(i:Int):=by omega
       have qi:(i:Int)<(l0.length:Int):=by omega
       obtain⟨ad,ea,hxi⟩:=zV HR0.out i pi qi;cases ea
       rw[Int.toNat_natCast]at hxi;replace hxi:=cB0 HB hxi;replace pi:=zB pi;replace qi:=zB qi;have HII:=aM hi;clear hi
       by_cases he:rd l0 i=(m:Int)
       · have he1:(rd l0 i == (m:Int))=true:=zT.mpr he;have hcm:=BK.out.cellc m (by have:=HMM.out;omega);simp only[cnB,Nat.lt_irrefl,if_true,if_false]at hcm;have hfm:=BK.out.free m;go_wp2
         refine start_ (n:=11) (S:=fun w'=>w'.cell? ⟨gb,m,none⟩=some (.int .i64 (q:Int))) (ds:=[10]) (bAr 11 0) (by kernel_rfl) rfl rfl hcm (fun hHeld=>?_)
         refine pX 0 44 (bAr 11 1) ?_
         refine pX 1 45 (bAr 11 3) ?_
         refine pX 2 46 (bAr 11 7) ?_
         refine pX 3 47 (bAr 11 15) ?_
         refine pX 4 48 (bAr 11 31) ?_
         refine tK 5 49 (bAr 11 63) ?_
         refine pX 6 50 (bAr 11 127) ?_
         refine pX 7 51 (bAr 11 255) ?_
         refine pX 8 52 (bAr 11 511) ?_
         refine pX 9 53 (bAr 11 1023) ?_
         refine last_ (i:=10) (N:=none) (bAr 11 2047) rfl rfl (by kernel_rfl) (by decide) (fun K hK=>?_)
         refine skip_ (w1:=?_) (by rfl) rfl ?_ ?_;rotate_left
         · go_simp
           rfl
         refine hK.out _ _ ?_;clear hK K
         refine done_ (by kernel_rfl) ?_;have hwq:wrap64 ((q:Int)+1)=((q+1:Nat):Int):=by
          have h1:=HQ.out;have h2:=List.count_le_length (a:=(m:Int)) (l:=l0.take i)
          rw[zd]at h2;have h3:=HL.out;unfold wrap64;omega
         have BK1:=aM (BookB.congr (BookB.setc BK.out m (by have:=HMM.out;omega) (wrap64 ((q:Int)+1))) (c':=cnB l0 m (q+1)) (by rw[hwq];push_cast;exact cnB_set l0 m q) (fun _ _=>rfl)).drew;have HO1:=aM (zW (BookB.row_set (j:=m) (x:=.int .i64 (wrap64 ((q:Int)+1))) BK.out HO.out (by decide)));have HB1:=aM (zy (below_set (j:=m) HB.out GB.out (v:=.int .i64 (wrap64 ((q:Int)+1)))))
         generalize (wr.setCell ⟨gb,m,none⟩ (.int .i64 (wrap64 ((q:Int)+1)))).drew=wq at BK1 HO1 HB1 ⊢;clear hcm hfm BK HO HB hxi;have hne:=aM (BookB.ne_row BK1.out HO1.out (by decide));have hcv:=BK1.out.cellv;have hll:=aM (show s1.length≤100000000 by
          have h1:=HS1.out;have h2:=symB_bd l0 k;have h3:=List.count_le_length (a:=(m:Int)) (l:=l0.take i)
          rw[zd]at h3;have h4:=HL.out;have h5:=HQ.out;have h6:=HMM.out;have h7:=HM.out;have h8:(l0.length:Int)*k≤1000000*15:=Int.le_trans (Int.mul_le_mul_of_nonneg_right (b:=1000000) (by omega) (by omega)) (Int.mul_le_mul_of_nonneg_left (by omega) (by decide))
          omega)
         go_wp2_with (first|((with_reducible refine gate_builtin (b:=.append) (xs:=#[.tmp 58,.tmp 60]) rfl ?_);at_builtin;refine ZC (Kd.int .i64) (w0:=w) w.heap.size rfl (.tmp 58) (.tmp 60) 45 3 (.int .i64 0) 8 rfl Try.underlying45 info3 rfl (by decide) (by omega) v1 s1 (i:Int) [.int .i64 (i:Int)] (fun _=>True) (fun _=>False) rfl (by first|(go_simp;done)|(go_simp;rfl)) ?aP (fun _ hk=>hk.elim) (fun _ _=>trivial) ?aO ?aB ?aS ?aL ?_;(case aP=>rfl);(case aO=>exact HO1.out);(case aB=>exact HB1.out);(case aS=>exact zD HB1.out);(case aL=>have:=hll.out;omega);intro v2 w3 ho hb hg hat;have BK2:=aM (BookB.keep BK1.out (hg.block gb (BookB.lt BK1.out) hne.out));have HO2:=aM ho;have HB2:=aM hb;clear ho hb hg hat BK1 HO1 HB1 hcv hne;obtain⟨Av,cv,ev⟩:=zY HO2.out;subst ev;have hcv2:=BK2.out.cellv;have hfv2:=BK2.out.free 32))
         rw[show(s1++[(i:Int)]).length=s1.length+1 by simp]at HO2;have BK3:=aM (BookB.setv BK2.out (.slice Av (s1.length+1) cv));have HO3:=aM (BookB.row_set (j:=32) (x:=.slice Av (s1.length+1) cv) BK2.out HO2.out (by decide));have HB3:=aM (below_set (j:=32) HB2.out GB.out (v:=.slice Av (s1.length+1) cv));clear hcv2 hfv2 BK2 HO2 HB2
         generalize w3.setCell ⟨gb,32,none⟩ (.slice Av (s1.length+1) cv)=w4 at BK3 HO3 HB3 ⊢;have hcs:=BK3.out.cells;have hfs:=BK3.out.free 33
         refine start_ (n:=10) (S:=fun w'=>w'.cell? ⟨gb,33,none⟩=some (.int .i64 sq)) (ds:=[9]) (bAr 10 0) (by kernel_rfl) rfl rfl hcs (fun hHeld=>?_)
         refine pX 0 64 (bAr 10 1) ?_
         refine pX 1 65 (bAr 10 3) ?_
         refine pX 2 66 (bAr 10 7) ?_
         refine tK 3 67 (bAr 10 15) ?_
         refine pX 4 68 (bAr 10 31) ?_
         refine pX 5 69 (bAr 10 63) ?_
         refine pX 6 70 (bAr 10 127) ?_
         refine pX 7 71 (bAr 10 255) ?_
         refine pX 8 72 (bAr 10 511) ?_
         refine last_ (i:=9) (N:=none) (bAr 10 1023) rfl rfl (by kernel_rfl) (by decide) (fun K hK=>?_)
         refine skip_ (w1:=?_) (by rfl) rfl ?_ ?_;rotate_left
         · go_simp
           rfl
         refine hK.out _ _ ?_;clear hK K
         refine done_ (by kernel_rfl) ?_;have hsh:(32768:Int) / 2 ^ min m 64=2 ^ (15-m):=(show ∀ m,m≤15→(32768:Int) / 2 ^ min m 64=2 ^ (15-m)by decide) m HMM.out;have hct:=aM (show q+1=(l0.take (i+1)).count (m:Int)by
          rw[List.take_add_one,List.count_append,← HQ.out];have h1:l0[i]? = some (m:Int):=by
           rw[List.getElem?_eq_getElem HII.out];have h2:=he;unfold rd at h2
           simpa [HII.out] using h2
          rw[h1]
          simp)
         have hsq:=aM (show wrap64 (sq+(32768:Int) / 2 ^ min m 64)=sumB l0 k+((q+1:Nat):Int)*2 ^ (15-m)by
          rw[hsh,HSQ.out];have h1:=sumB_bd l0 HL.out k (by have:=HMM.out;have:=HM.out;omega);have h2:=p2_bd (15-m) (by omega);have h3:=List.count_le_length (a:=(m:Int)) (l:=l0.take (i+1))
          rw[zd,← hct.out]at h3;have h4:=HL.out;have h5:(q:Int)*2 ^ (15-m)≤1000000*32768:=Int.le_trans (Int.mul_le_mul_of_nonneg_right (b:=1000000) (by omega) (by omega)) (Int.mul_le_mul_of_nonneg_left h2.2 (by decide));have h6:0≤(q:Int)*2 ^ (15-m):=Int.mul_nonneg (by omega) (by omega)
          push_cast
          rw[Int.add_mul,Int.one_mul]
          generalize (2:Int) ^ (15-m)=z at *
          generalize (q:Int)*z=y at *;have h7:=HMM.out;have h8:=HM.out;unfold wrap64
          omega)
         have BK4:=aM (BookB.sets BK3.out (wrap64 (sq+(32768:Int) / 2 ^ min m 64)));have HO4:=aM (BookB.row_set (j:=33) (x:=.int .i64 (wrap64 (sq+(32768:Int) / 2 ^ min m 64))) BK3.out HO3.out (by decide));have HB4:=aM (below_set (j:=33) HB3.out GB.out (v:=.int .i64 (wrap64 (sq+(32768:Int) / 2 ^ min m 64))));clear hcs hfs BK3 HO3 HB3
         generalize w4.setCell ⟨gb,33,none⟩ (.int .i64 (wrap64 (sq+(32768:Int) / 2 ^ min m 64)))=w5 at BK4 HO4 HB4 ⊢
         rw[hsq.out]at BK4;go_wp2;have hwi:wrap64 ((i:Int)+1)=((i+1:Nat):Int):=by
          have h1:=HII.out;have h2:=HL.out;unfold wrap64;omega
         go_roundg (gk-1)
         case measure=>have:=HI.out;have:=HII.out;omega
         case rel=>exact⟨i+1,q+1,_,_,_,by rw[hwi],⟨by have:=HI.out;have:=HII.out;omega⟩,hct,⟨rfl⟩,⟨(BK4.out).drew⟩,⟨zW HO4.out⟩,⟨by have:=HS1.out;simp;omega⟩,⟨zy HB4.out⟩⟩
       · have he1:(rd l0 i == (m:Int))=false:=zK.mpr he;have hct:=aM (show q=(l0.take (i+1)).count (m:Int)by
          rw[List.take_add_one,List.count_append,← HQ.out];have h1:l0[i]? = some (rd l0 i):=by
           rw[List.getElem?_eq_getElem HII.out];unfold rd
           simp[HII.out]
          rw[h1]
          simp[he])
         go_wp2;have hwi:wrap64 ((i:Int)+1)=((i+1:Nat):Int):=by
          have h1:=HII.out;have h2:=HL.out;unfold wrap64;omega
         go_roundg (gk-1)
         case measure=>have:=HI.out;have:=HII.out;omega
         case rel=>exact⟨i+1,q,_,_,_,by rw[hwi],⟨by have:=HI.out;have:=HII.out;omega⟩,hct,HSQ,⟨by(with_reducible repeat (first|apply BookB.drewN|apply BookB.drew));exact BK.out⟩,⟨zA HO.out⟩,HS1,⟨by(exact hB)⟩⟩
     · have hi1:decide ((i:Int)<(l0.length:Int))=false:=zO (by omega);have hi2:decide (i<l0.length)=false:=zO hi;have HII:=aM (show i=l0.length by have:=HI.out;omega);clear hi;have hq:=aM (show(q:Int)=cntB l0 m by
        rw[HQ.out,HII.out,List.take_length];unfold cntB
        rw[if_neg (by have:=HM.out;omega)])
       go_wp2;have hwm:wrap64 ((m:Int)+1)=((m+1:Nat):Int):=by
        have h1:=HMM.out;unfold wrap64;omega
       go_roundg (gk1-1)
       case measure=>have:=HK.out;have:=HMM.out;have:=HM.out;omega
       case rel =>
        have hm:=HM.out;have hmm:=HMM.out;subst hm
        refine⟨k+1,k+2,v1,s1,by rw[hwm],⟨rfl⟩,⟨by have:=HK.out;omega⟩,⟨?_⟩,⟨?_⟩,⟨?_⟩,⟨?_⟩⟩
        · (with_reducible repeat (first|apply BookB.drewN|apply BookB.drew));have h1:sq=sumB l0 (k+1):=by rw[HSQ.out,hq.out];rfl
          rw[← h1]
          refine BookB.congr BK.out (fun j hj=>?_) (fun j _=>rfl)
          rw[hq.out];exact cnB_next l0 (k+1) j hj
        · (with_reducible repeat (first|apply zo|apply zk|apply zW));exact HO.out
        · rw[HS1.out,hq.out];rfl
        · (exact hB)
  · have hm1:decide ((m:Int)≤15)=false:=zO (by omega);have hm2:decide (m≤15)=false:=zO hm;have HMM:=aM (show k=15 by have:=HM.out;have:=HK.out;omega);clear hm;go_wp2;go_ret;have hk:=HMM.out;subst hk
    refine⟨gb,v,ss,rfl,?_,?_,?_,GB.out,?_⟩
    · (with_reducible repeat (first|apply BookB.drewN|apply BookB.drew))
      refine BookB.congr BK.out (fun j hj=>?_) (fun j hj=>?_)
      · unfold cnB;rw[if_pos (by omega)]
      · unfold fsB;rw[if_pos (by omega)]
    · (with_reducible repeat (first|apply zo|apply zk|apply zW));exact HO.out
    · exact HS.out
    · (exact hB)
def impl_CodeKind.f (l0:List Int):Option Int:=if l0.length≤1000000 then some (kindB l0)else none
theorem impl_CodeKind.within (x:Int):impl_within.f x 0 15=some (decide (0≤x) && decide (x≤15)):=by
  unfold impl_within.f
  by_cases h:x≥0
  · rw[if_pos h,zN (show 0≤x from h),Bool.true_and]
  · rw[if_neg h,zO (show ¬0≤x from h),Bool.false_and]
theorem impl_CodeKind.lens (l0:List Int) (hl:l0.length≤1000000):∀ (k i:Nat),i≤l0.length→l0.length<k+i→impl_lengthsOk.l0 k l0 288 l0 (l0.length:Int) (i:Int)=some ((l0.drop i).all (fun x=>decide (0≤x) && decide (x≤15)) && decide (l0.length≤288))
  | 0,i,h1,h2=>by omega
  | k+1,i,h1,h2=>by
    rw[impl_lengthsOk.l0]
    by_cases h:i<l0.length
    · rw[if_pos (by omega),if_pos (by omega),if_pos (by omega),impl_CodeKind.within]
      have e1:rd l0 (i:Int)=l0[i]:=by unfold rd;simp[h]
      have e2:l0.drop i=l0[i] :: l0.drop (i+1):=List.drop_eq_getElem_cons h
      have e3:wrap64 ((i:Int)+1)=((i+1:Nat):Int):=by unfold wrap64;omega
      rw[e1,e2,List.all_cons,e3]
      simp only[Option.bind_some]
      have ih:=impl_CodeKind.lens l0 hl k (i+1) (by omega) (by omega)
      cases hb:(decide (0≤l0[i]) && decide (l0[i]≤15))
      · simp
      · rw[if_pos rfl,ih,Bool.true_and]
    · rw[if_neg (by omega),List.drop_eq_nil_of_le (by omega)]
      simp
      omega
theorem impl_CodeKind.lensF (l0:List Int) (hl:l0.length≤1000000):impl_lengthsOk.f (l0.length+1) l0 288=some (okB l0):=by
  have:=impl_CodeKind.lens l0 hl (l0.length+1) 0 (by omega) (by omega)
  rw[List.drop_zero]at this
  exact this
theorem impl_CodeKind.calls (A0:Option Addr) (c0:Nat) (l0:List Int) (r:Int) (w:World) (hr0:Kd.C (Kd.int .i64) w A0 l0.length l0) (hc0:l0.length≤c0) (h:impl_CodeKind.f l0=some r) :
 Calls Try.prog 77 #[.slice A0 l0.length c0] w fun e w'=>e = .returned (.int .i64 r)∧Below w.heap.size w w':=by
 unfold impl_CodeKind.f at h
 by_cases hl:l0.length≤1000000
 · rw[if_pos hl]at h;have hr:=zC h;clear h;have HOK:=aM (impl_CodeKind.lensF l0 hl);have HR0:=aM hr0;have HC0:=aM hc0;have HL:=aM hl;have HB:=aM (zQ w.heap.size w);clear hr0 hc0 hl;unfold kindB at hr;cases hok:okB l0
   · rw[hok]at hr HOK
     rw[if_neg (by decide)]at hr;subst hr;go_enter Try.func77,Try.ntmps77
     go_wp2_with (first|((with_reducible refine gC 74 ?_);refine goesL_ (some 5) rfl rfl Try.func74 (by kernel_rfl) rfl #[.slice A0 l0.length c0,.int .i64 288] rfl (by(try simp only[zg,List.map_cons,List.map_nil]);first|done|rfl) ?_;(with_reducible refine(impl_lengthsOk.calls (l0.length+1) _ _ l0 288 false _ ?s1 HC0.out HOK.out).mono ?_);(case s1=>exact Kd.C_i HR0.out);rintro e w' ⟨rfl,⟨nd,rfl⟩⟩;refine⟨_,rfl,?_⟩));go_ret;exact⟨rfl,hB⟩
   · rw[hok]at hr HOK
     rw[if_pos rfl]at hr;have HRR:=aM hr;clear hr;go_enter Try.func77,Try.ntmps77
     go_upto_region 4 with (first|((with_reducible refine gC 74 ?_);refine goesL_ (some 5) rfl rfl Try.func74 (by kernel_rfl) rfl #[.slice A0 l0.length c0,.int .i64 288] rfl (by(try simp only[zg,List.map_cons,List.map_nil]);first|done|rfl) ?_;(with_reducible refine(impl_lengthsOk.calls (l0.length+1) _ _ l0 288 true _ ?s1 HC0.out HOK.out).mono ?_);(case s1=>exact Kd.C_i HR0.out);rintro e w' ⟨rfl,⟨nd,rfl⟩⟩;refine⟨_,rfl,?_⟩)|((with_reducible refine gC 81 ?_);refine goesL_ (some 8) rfl rfl Try.func81 (by kernel_rfl) rfl #[.slice A0 l0.length c0] rfl (by(try simp only[zg,List.map_cons,List.map_nil]);first|done|rfl) ?_;(with_reducible refine(impl_bookOf.calls A0 c0 l0 _ ?s1 HC0.out HL.out).mono ?_);(case s1=>exact Kd.C_i HR0.out);rintro e w2 ⟨gb,v,ss,rfl,hbk,ho,hs,hgb,hb⟩;refine⟨_,rfl,?_⟩;have HB2:=hS hb;obtain⟨Av,cv,ev⟩:=zY ho;subst ev;have BK:=aM hbk;have HS:=aM hs;clear HB;have HB:=HB2;clear HB2 hbk ho hs hgb hb));have hcs:=BK.out.cells;have hcv:=BK.out.cellv;have hc1:=BK.out.cellc 1 (by omega)
     by_cases h1:sumB l0 15=0
     · have h1b:(sumB l0 15 == 0)=true:=zT.mpr h1;have h1c:r=1:=by rw[← HRR.out,if_pos h1]
       subst h1c;go_wp2;go_ret;exact⟨rfl,hB⟩
     · have h1b:(sumB l0 15 == 0)=false:=zK.mpr h1
       by_cases h2:sumB l0 15=32768
       · have h2b:(sumB l0 15 == 32768)=true:=zT.mpr h2;have h1c:r=2:=by rw[← HRR.out,if_neg h1,if_pos h2]
         subst h1c;clear h1;go_wp2;go_ret;exact⟨rfl,hB⟩
       · have h2b:(sumB l0 15 == 32768)=false:=zK.mpr h2
         by_cases h3:32768<sumB l0 15
         · have h3b:decide (32768<sumB l0 15)=true:=zN h3;have h1c:r=5:=by rw[← HRR.out,if_neg h1,if_neg h2,if_pos h3]
           subst h1c;clear h1 h2 h3;go_wp2;go_ret;exact⟨rfl,hB⟩
         · have h3b:decide (32768<sumB l0 15)=false:=zO h3
           by_cases h4:symB l0 15=1
           · have h4a:ss.length=1:=by have:=HS.out;omega
             have h4b:((ss.length:Int) == 1)=true:=zT.mpr (by omega);have h4c:(ss.length == 1)=true:=zT.mpr h4a
             by_cases h5:cntB l0 1=1
             · have h5b:(cntB l0 1 == 1)=true:=zT.mpr h5;have h1c:r=3:=by rw[← HRR.out,if_neg h1,if_neg h2,if_neg h3,if_pos ⟨h4,h5⟩]
               subst h1c;clear h1 h2 h3 h4 h4a h5;go_wp2;go_ret;exact⟨rfl,hB⟩
             · have h5b:(cntB l0 1 == 1)=false:=zK.mpr h5;have h1c:r=4:=by rw[← HRR.out,if_neg h1,if_neg h2,if_neg h3,if_neg (fun hh=>h5 hh.2)]
               subst h1c;clear h1 h2 h3 h4 h4a h5;go_wp2;go_ret;exact⟨rfl,hB⟩
           · have h4a:ss.length≠1:=by have:=HS.out;omega
             have h4b:((ss.length:Int) == 1)=false:=zK.mpr (by omega);have h4c:(ss.length == 1)=false:=zK.mpr h4a;have h1c:r=4:=by rw[← HRR.out,if_neg h1,if_neg h2,if_neg h3,if_neg (fun hh=>h4 hh.1)]
             subst h1c;clear h1 h2 h3 h4 h4a;go_wp2;go_ret;exact⟨rfl,hB⟩
 · rw[if_neg hl]at h;cases h
end Go.Proofs.Ytldiiicbgdfapaa.PFnExactWovenBlock
