/- The stable sort of the coins, walked: SortStableFunc and what it calls. -/
import Derived.Shelf.SlSortCmp.KitK
import Derived.Test.YtldiiicbgdfapaaProg
import Derived.Test.YtldiiicbgdfapaaSortMath
import Derived.Test.YtldiiicbgdfapaaVFnExactWovenBlock
set_option linter.unusedVariables false
set_option linter.unusedSimpArgs false
namespace Go.Proofs.Ytldiiicbgdfapaa.SortHand
section
open Go.Shelf Go.RowKit Go.Lib Go.Sort Go.Proofs.Ytldiiicbgdfapaa.SortMath
variable {α:Type} [Inhabited α]
theorem swp_list (d:Array α) (i j:Nat) (hi:i<d.size) (hj:j<d.size):(Go.Sort.swp d i j).toList=lswp d.toList i j:=by
  unfold Go.Sort.swp lswp
  simp[hi,hj,Array.getElem!_eq_getD,Array.getD]
set_option maxHeartbeats 4000000 in
set_option maxRecDepth 1000000 in
theorem swapRange.calls (k:Nat) (aE:∀ w,(isAgg 141).run Try.prog w = .ok true w) (zE:∀ w,(Go.sizeOf 141).run Try.prog w = .ok k w) (enc:α→List Value) (g:Nat) (cb:Array Value) (blk off cap sz a b n:Nat) (za zb zn:Int) (d0 d:Array α) (w0 w:World) (ea:za=a) (eb:zb=b) (en:zn=n)
    (R:RowK enc k w0 blk off d0) (hd:d.size=sz) (hs:d0.size=d.size) (S:SWK enc k w0 blk off d w) (ha:a+n≤sz) (hb:b+n≤sz) (hsz:sz<4611686018427387904) :
    Calls Try.prog 125 #[.slice (some ⟨blk,off,none⟩) sz cap,.int .i64 za,.int .i64 zb,.int .i64 zn,.func (.func g) #[] cb] w fun e w'=>e = .returned (.tuple #[])∧∃ d':Array α,d'.toList=swapR n d.toList a b∧d'.size=sz∧SWK enc k w0 blk off d' w':=by
  subst ea;subst eb;subst en
  have mixed:Try.prog.follows Departure.mixedOrders=true:=by kernel_rfl
  have S0:Aside (SWK enc k w0 blk off d w):=S
  clear S
  go_enter Try.func125,Try.ntmps125
  go_wp2
  go_loopg [10] n (fun kx s10 wr => ∃ (i:Nat) (dk:Array α),s10 = .int .i64 i∧i≤n∧n-i≤kx∧dk.size=sz∧Aside (SWK enc k w0 blk off dk wr)∧Hid (swapR (n-i) dk.toList (a+i) (b+i)=swapR n d.toList a b))
  case atStart=>exact⟨0,d,rfl,by omega,by omega,hd,S0,rfl⟩
  case round =>
    clear S0
    obtain⟨i,dk,rfl,hin,hkx,hds,S1,heq⟩:=hrel
    by_cases hlt:(i:Int)<(n:Int)
    · go_wp2_with fail
      have ra44:IntKind.i64.wrap ((a:Int)+(i:Int))=((a+i:Nat):Int):=by rw[IntKind.wrap_i64];omega
      have pa44:(0:Int)≤((a+i:Nat):Int):=by omega
      have ba44:((a+i:Nat):Int)<(sz:Int):=by omega
      have rc44:IntKind.i64.wrap ((b:Int)+(i:Int))=((b+i:Nat):Int):=by rw[IntKind.wrap_i64];omega
      have pc44:(0:Int)≤((b+i:Nat):Int):=by omega
      have bc44:((b+i:Nat):Int)<(sz:Int):=by omega
      have S2:Aside (SWK enc k w0 blk off (Go.Sort.swp dk (a+i) (b+i)) ((wr.drew.setCells blk (off+(a+i)*k) (enc dk[b+i]!)).setCells blk (off+(b+i)*k) (enc dk[a+i]!))):=S1.out.swapped R (a+i) (b+i) (by omega) (by omega)
      have l44a:=S1.out.ld1 R (by omega) Try.prog (a+i) (by omega)
      have l44b:=S1.out.ld1 R (by omega) Try.prog (b+i) (by omega)
      have s44a:=S1.out.st1 R (by omega) Try.prog (a+i) (by omega) dk[b+i]!
      have s44b:=S1.out.st2 R (by omega) Try.prog (a+i) (b+i) (by omega) (by omega) dk[b+i]! dk[a+i]!
      have n44a:(enc dk[a+i]!).length=k:=R.hk _
      have n44b:(enc dk[b+i]!).length=k:=R.hk _
      generalize enc dk[a+i]! = cI44 at S2 l44a s44b n44a
      generalize enc dk[b+i]! = cJ44 at S2 l44b s44a s44b n44b
      clear S1
      go_wp2_with fail
      go_big_region_o
      clear l44a l44b s44a s44b
      generalize (wr.drew.setCells blk (off+(a+i)*k) cJ44).setCells blk (off+(b+i)*k) cI44=w2 at S2 ⊢
      go_wp2
      go_roundg (n-(i+1))
      case measure=>omega
      case rel =>
        refine⟨i+1,Go.Sort.swp dk (a+i) (b+i),by go_num,by omega,Nat.le_refl _,by rw[size_swp];exact hds,S2,(show Hid _ from ?_)⟩
        show _=_
        rw[swp_list dk _ _ (by omega) (by omega),← heq.out,show n-i=(n-(i+1))+1 from by omega]
        rfl
    · go_wp2
      go_end0
      have e:=heq.out
      rw[show n-i=0 from by omega]at e
      exact⟨rfl,dk,e,hds,S1.out⟩
end
section
open Go.Shelf Go.RowKit Go.Lib Go.Sort Go.Proofs.Ytldiiicbgdfapaa.SortMath
variable {α:Type} [Inhabited α]
set_option maxHeartbeats 4000000 in
set_option maxRecDepth 1000000 in
theorem rotate.calls (k:Nat) (aE:∀ w,(isAgg 141).run Try.prog w = .ok true w) (zE:∀ w,(Go.sizeOf 141).run Try.prog w = .ok k w) (enc:α→List Value) (g:Nat) (cb:Array Value) (blk off cap sz a m b:Nat) (za zm zb:Int) (d0 d:Array α) (w0 w:World) (ea:za=a) (em:zm=m) (eb:zb=b)
    (R:RowK enc k w0 blk off d0) (hd:d.size=sz) (hs:d0.size=d.size) (S:SWK enc k w0 blk off d w) (ham:a<m) (hmb:m<b) (hb:b≤sz) (hsz:sz<4611686018427387904) :
    Calls Try.prog 124 #[.slice (some ⟨blk,off,none⟩) sz cap,.int .i64 za,.int .i64 zm,.int .i64 zb,.func (.func g) #[] cb] w fun e w'=>e = .returned (.tuple #[])∧∃ d':Array α,d'.toList=rotR (b-a) d.toList m (m-a) (b-m)∧d'.size=sz∧SWK enc k w0 blk off d' w':=by
  subst ea;subst em;subst eb
  have S0:Aside (SWK enc k w0 blk off d w):=S
  clear S
  go_enter Try.func124,Try.ntmps124
  have r1:IntKind.i64.wrap ((m:Int)-(a:Int))=((m-a:Nat):Int):=by rw[IntKind.wrap_i64];omega
  have r2:IntKind.i64.wrap ((b:Int)-(m:Int))=((b-m:Nat):Int):=by rw[IntKind.wrap_i64];omega
  go_wp2
  go_loopg [10,11] (b-a) (fun kx s10 s11 wr => ∃ (i j q:Nat) (dk:Array α),s10 = .int .i64 i∧s11 = .int .i64 j∧0<i∧0<j∧i≤m-a∧j≤b-m∧i+j≤kx∧i+j≤q∧dk.size=sz∧Aside (SWK enc k w0 blk off dk wr)∧Hid (rotR q dk.toList m i j=rotR (b-a) d.toList m (m-a) (b-m)))
  case atStart=>exact⟨m-a,b-m,b-a,d,by first|rfl|go_num,by first|rfl|go_num,by omega,by omega,Nat.le_refl _,Nat.le_refl _,by omega,by omega,hd,S0,rfl⟩
  case round =>
    clear S0
    obtain⟨i,j,q,dk,rfl,rfl,hi0,hj0,hi,hj,hkx,hq,hds,S1,heq⟩:=hrel
    obtain⟨q,rfl⟩:∃ p,q=p+1:=⟨q-1,by omega⟩
    have rmi:IntKind.i64.wrap ((m:Int)-(i:Int))=((m-i:Nat):Int):=by rw[IntKind.wrap_i64];omega
    by_cases hne:i=j
    · have hz:((i:Int) != (j:Int))=false:=by subst hne;simp
      go_wp2_with (first|(go_at_call 125;refine(swapRange.calls k aE zE enc g cb blk off cap sz (m-i) m i _ _ _ d0 dk w0 _ (by omega) (by omega) (by omega) R hds (by omega) S1.out (by omega) (by omega) hsz).mono ?_;rintro e w2 ⟨rfl,d2,e2,h2,S2⟩))
      go_end0
      refine⟨rfl,d2,?_,h2,S2⟩
      rw[e2,← heq.out,rotR,if_pos hne]
    · have hz:((i:Int) != (j:Int))=true:=by simp;omega
      by_cases hgt:j<i
      · have hgz:(j:Int)<(i:Int):=by omega
        have rij:IntKind.i64.wrap ((i:Int)-(j:Int))=((i-j:Nat):Int):=by rw[IntKind.wrap_i64];omega
        go_wp2_with (first|(go_at_call 125;refine(swapRange.calls k aE zE enc g cb blk off cap sz (m-i) m j _ _ _ d0 dk w0 _ (by omega) (by omega) (by omega) R hds (by omega) S1.out (by omega) (by omega) hsz).mono ?_;rintro e w2 ⟨rfl,d2,e2,h2,S2⟩))
        go_roundg (i-j+j)
        case measure=>omega
        case rel =>
          refine⟨i-j,j,q,d2,by first|rfl|go_num,by first|rfl|go_num,by omega,hj0,by omega,hj,Nat.le_refl _,by omega,h2,S2,(show Hid _ from ?_)⟩
          show _=_
          rw[e2,← heq.out,rotR,if_neg hne,if_pos hgt]
      · have hgz:¬(j:Int)<(i:Int):=by omega
        have rji:IntKind.i64.wrap ((j:Int)-(i:Int))=((j-i:Nat):Int):=by rw[IntKind.wrap_i64];omega
        have rmj:IntKind.i64.wrap ((m:Int)+(j:Int))=((m+j:Nat):Int):=by rw[IntKind.wrap_i64];omega
        have rmji:IntKind.i64.wrap (((m+j:Nat):Int)-(i:Int))=((m+j-i:Nat):Int):=by rw[IntKind.wrap_i64];omega
        go_wp2_with (first|(go_at_call 125;refine(swapRange.calls k aE zE enc g cb blk off cap sz (m-i) (m+j-i) i _ _ _ d0 dk w0 _ (by omega) (by omega) (by omega) R hds (by omega) S1.out (by omega) (by omega) hsz).mono ?_;rintro e w2 ⟨rfl,d2,e2,h2,S2⟩))
        go_roundg (i+(j-i))
        case measure=>omega
        case rel =>
          refine⟨i,j-i,q,d2,by first|rfl|go_num,by first|rfl|go_num,hi0,by omega,hi,by omega,Nat.le_refl _,by omega,h2,S2,(show Hid _ from ?_)⟩
          show _=_
          rw[e2,← heq.out,rotR,if_neg hne,if_neg hgt]
end
section
open Go.Shelf Go.RowKit Go.Lib Go.Sort Go.Proofs.Ytldiiicbgdfapaa.SortMath
variable {α:Type} [Inhabited α]
theorem key_arr (f:α→Int) (d:Array α) (i:Nat) (h:i<d.size):key f d.toList i=f d[i]! := by
  simp[key,h,Array.getElem!_eq_getD,Array.getD]
theorem rotR_irrel {β:Type} (k:Nat):∀ (k':Nat) (l:List β) (m i j:Nat),0<i→0<j→i+j≤k→i+j≤k'→rotR k l m i j=rotR k' l m i j:=by
  induction k with
  | zero=>intro k' l m i j h1 h2 h3 h4;omega
  | succ k ih =>
    intro k' l m i j h1 h2 h3 h4
    cases k' with
    | zero=>omega
    | succ k' =>
      rw[rotR,rotR]
      by_cases c:i=j
      · rw[if_pos c,if_pos c]
      · rw[if_neg c,if_neg c]
        by_cases g:j<i
        · rw[if_pos g,if_pos g,ih k' _ _ _ _ (by omega) h2 (by omega) (by omega)]
        · rw[if_neg g,if_neg g,ih k' _ _ _ _ h1 (by omega) (by omega) (by omega)]
set_option maxHeartbeats 4000000 in
set_option maxRecDepth 1000000 in
theorem symMerge1.calls (k:Nat) (aE:∀ w,(isAgg 141).run Try.prog w = .ok true w) (zE:∀ w,(Go.sizeOf 141).run Try.prog w = .ok k w) (enc:α→List Value) (f:α→Int) (cf:α→α→Int) (hcf:∀ x y,cf x y<0↔f x<f y) (g:Nat) (cb:Array Value)
    (eg:∀ args w,(callFunc g args).run Try.prog w = .ok (.enter g args) w) (blk off cap sz K a m b:Nat) (za zm zb:Int) (d0 d:Array α) (w0 w:World) (ea:za=a) (em:zm=m) (eb:zb=b)
    (hcmp:CmpLays Try.prog g cb enc k cf blk off sz w0) (R:RowK enc k w0 blk off d0) (hd:d.size=sz) (hs:d0.size=d.size) (S:SWK enc k w0 blk off d w) (h1:m-a=1) (hmb:m<b) (hb:b≤sz) (hsz:sz<4611686018427387904) (hK:b-a≤K+1) :
    Calls Try.prog 123 #[.slice (some ⟨blk,off,none⟩) sz cap,.int .i64 za,.int .i64 zm,.int .i64 zb,.func (.func g) #[] cb] w fun e w'=>e = .returned (.tuple #[])∧∃ d':Array α,d'.toList=symR f (K+1) d.toList a m b∧d'.size=sz∧SWK enc k w0 blk off d' w':=by
  subst ea;subst em;subst eb
  have mixed:Try.prog.follows Departure.mixedOrders=true:=by kernel_rfl
  have S0:Aside (SWK enc k w0 blk off d w):=S
  have HC:Aside _:=hcmp
  have HCF:Hid (∀ x y,cf x y<0↔f x<f y):=hcf
  clear S hcmp hcf
  go_enter Try.func123,Try.ntmps123
  have r1:IntKind.i64.wrap ((m:Int)-(a:Int))=1:=by rw[IntKind.wrap_i64];omega
  have r0:(m:Int)-(a:Int)=1:=by omega
  go_wp2
  go_loopg [10,11] (b-m) (fun kx s10 s11 wr => ∃ (lo hi q:Nat),s10 = .int .i64 lo∧s11 = .int .i64 hi∧m≤lo∧lo≤hi∧hi≤b∧hi-lo≤kx∧hi-lo≤q∧Aside (SWK enc k w0 blk off d wr)∧Hid (bsR (fun h=>decide (key f d.toList h<key f d.toList a)) q lo hi=bsR (fun h=>decide (key f d.toList h<key f d.toList a)) (K+1) m b))
  case atStart=>exact⟨m,b,K+1,by first|rfl|go_num,by first|rfl|go_num,by omega,by omega,by omega,by omega,by omega,S0,rfl⟩
  case round =>
    clear S0
    obtain⟨lo,hi,q,rfl,rfl,hlo,hlh,hhb,hkx,hq,S1,heq⟩:=hrel
    by_cases hlt:(lo:Int)<(hi:Int)
    · obtain⟨q,rfl⟩:∃ p,q=p+1:=⟨q-1,by omega⟩
      have rs:IntKind.i64.wrap ((lo:Int)+(hi:Int))=((lo+hi:Nat):Int):=by rw[IntKind.wrap_i64];omega
      go_wp2_with fail
      obtain⟨c,hc⟩:∃ c,c=(lo+hi) / 2:=⟨_,rfl⟩
      have hcz:((lo:Int)+(hi:Int)) / 2=(c:Int):=by omega
      rw[hcz]
      have pc:(0:Int)≤(c:Int):=by omega
      have bc:(c:Int)<(sz:Int):=by omega
      have pa:(0:Int)≤(a:Int):=by omega
      have ba:(a:Int)<(sz:Int):=by omega
      obtain⟨x,hx⟩:∃ x,x=d[c]! := ⟨_,rfl⟩
      obtain⟨y,hy⟩:∃ x,x=d[a]! := ⟨_,rfl⟩
      have l1:=S1.out.ld R (by omega) Try.prog c (by omega)
      have l2:=S1.out.ld R (by omega) Try.prog a (by omega)
      rw[← hx]at l1
      rw[← hy]at l2
      have hg:=S1.out.cmp HC.out (by omega) x y
      have kc:(fun h=>decide (key f d.toList h<key f d.toList a)) c=decide (cf x y<0):=by
        show decide _=_
        rw[key_arr f d c (by omega),key_arr f d a (by omega),← hx,← hy]
        exact decide_eq_decide.mpr (HCF.out x y).symm
      have KC:Hid _:=kc
      have HX:Hid (c=(lo+hi) / 2):=hc
      have CL:lo≤c∧c<hi:=by omega
      clear hx hy kc hc hcz
      by_cases hv:cf x y<0
      · have hdv:decide (cf x y<0)=true:=decide_eq_true hv
        go_wp2_with fail
        go_quiet_grown (first|(go_at_fn g;refine Calls.grown_of (hg _ _)))
        have S2:Aside (SWK enc k w0 blk off d (grow (wr.drewN nq) osq)):=S1.out.grown nq osq
        clear l1 l2 hg S1
        generalize grow (wr.drewN nq) osq=w2 at S2 ⊢
        clear nq osq
        go_wp2
        go_roundg (hi-(c+1))
        case measure=>omega
        case rel =>
          refine⟨c+1,hi,q,by first|rfl|go_num,rfl,by omega,by omega,hhb,Nat.le_refl _,by omega,S2,(show Hid _ from ?_)⟩
          show _=_
          rw[← heq.out,bsR,if_pos (by omega),← HX.out,if_pos (by rw[KC.out];exact decide_eq_true hv)]
      · have hdv:decide (cf x y<0)=false:=decide_eq_false hv
        go_wp2_with fail
        go_quiet_grown (first|(go_at_fn g;refine Calls.grown_of (hg _ _)))
        have S2:Aside (SWK enc k w0 blk off d (grow (wr.drewN nq) osq)):=S1.out.grown nq osq
        clear l1 l2 hg S1
        generalize grow (wr.drewN nq) osq=w2 at S2 ⊢
        clear nq osq
        go_wp2
        go_roundg (c-lo)
        case measure=>omega
        case rel =>
          refine⟨lo,c,q,rfl,by first|rfl|go_num,hlo,by omega,by omega,Nat.le_refl _,by omega,S2,(show Hid _ from ?_)⟩
          show _=_
          rw[← heq.out,bsR,if_pos (by omega),← HX.out,if_neg (by rw[KC.out];simpa using hv)]
    · have eb:lo=bsR (fun h=>decide (key f d.toList h<key f d.toList a)) (K+1) m b:=by
        rw[← heq.out]
        cases q with
        | zero=>rfl
        | succ q=>rw[bsR,if_neg (by omega)]
      have EB:Hid _:=eb
      clear eb heq
      go_wp2_with fail
      go_loopg [13] (lo-1-a) (fun kx s13 wr2 => ∃ (i:Nat) (dk:Array α),s13 = .int .i64 i∧a≤i∧i≤lo-1∧lo-1-i≤kx∧dk.size=sz∧Aside (SWK enc k w0 blk off dk wr2)∧Hid (upR (lo-1-i) dk.toList i=upR (lo-1-a) d.toList a))
      case atStart=>exact⟨a,d,by first|rfl|go_num,by omega,by omega,by omega,hd,S1,rfl⟩
      case round =>
        clear S1
        obtain⟨i,dk,rfl,hai,hil,hkx2,hds,S1,heq2⟩:=hrel
        have rl:IntKind.i64.wrap ((lo:Int)-1)=((lo-1:Nat):Int):=by rw[IntKind.wrap_i64];omega
        by_cases hlt2:i<lo-1
        · have hz2:(i:Int)<((lo-1:Nat):Int):=by omega
          have ri1:IntKind.i64.wrap ((i:Int)+1)=((i+1:Nat):Int):=by rw[IntKind.wrap_i64];omega
          go_wp2_with fail
          have pa44:(0:Int)≤(i:Int):=by omega
          have ba44:(i:Int)<(sz:Int):=by omega
          have pc44:(0:Int)≤(i:Int)+1:=by omega
          have bc44:(i:Int)+1<(sz:Int):=by omega
          have ec44:((i:Int)+1).toNat=i+1:=by omega
          have S2:Aside (SWK enc k w0 blk off (Go.Sort.swp dk i (i+1)) ((wr.drew.setCells blk (off+i*k) (enc dk[i+1]!)).setCells blk (off+(i+1)*k) (enc dk[i]!))):=S1.out.swapped R i (i+1) (by omega) (by omega)
          have l44a:=S1.out.ld1 R (by omega) Try.prog i (by omega)
          have l44b:=S1.out.ld1 R (by omega) Try.prog (i+1) (by omega)
          have s44a:=S1.out.st1 R (by omega) Try.prog i (by omega) dk[i+1]!
          have s44b:=S1.out.st2 R (by omega) Try.prog i (i+1) (by omega) (by omega) dk[i+1]! dk[i]!
          have n44a:(enc dk[i]!).length=k:=R.hk _
          have n44b:(enc dk[i+1]!).length=k:=R.hk _
          generalize enc dk[i]! = cI44 at S2 l44a s44b n44a
          generalize enc dk[i+1]! = cJ44 at S2 l44b s44a s44b n44b
          clear S1
          go_wp2_with fail
          go_big_region_o
          clear l44a l44b s44a s44b
          generalize (wr.drew.setCells blk (off+i*k) cJ44).setCells blk (off+(i+1)*k) cI44=w2 at S2 ⊢
          go_wp2
          go_roundg (lo-1-(i+1))
          case measure=>omega
          case rel =>
            refine⟨i+1,Go.Sort.swp dk i (i+1),by first|rfl|go_num,by omega,by omega,Nat.le_refl _,by rw[size_swp];exact hds,S2,(show Hid _ from ?_)⟩
            show _=_
            rw[swp_list dk _ _ (by omega) (by omega),← heq2.out,show lo-1-i=(lo-1-(i+1))+1 from by omega]
            rfl
        · have hz2:¬(i:Int)<((lo-1:Nat):Int):=by omega
          go_wp2
          refine bodyPost_ret (results_none rfl _ _ _) rfl ?_
          refine⟨rfl,dk,?_,hds,S1.out⟩
          have e:=heq2.out
          rw[show lo-1-i=0 from by omega]at e
          rw[symR,if_pos (by omega),← EB.out]
          exact e
end
section
open Go.Shelf Go.RowKit Go.Lib Go.Sort Go.Proofs.Ytldiiicbgdfapaa.SortMath
variable {α:Type} [Inhabited α]
theorem lswp_comm {β:Type} (l:List β) (i j:Nat):lswp l i j=lswp l j i:=by
  unfold lswp
  by_cases e:i=j
  · subst e;rfl
  · cases h1:l[i]? <;> cases h2:l[j]? <;> simp only
    exact List.set_comm _ _ e
set_option maxHeartbeats 4000000 in
set_option maxRecDepth 1000000 in
theorem symMerge2.calls (k:Nat) (aE:∀ w,(isAgg 141).run Try.prog w = .ok true w) (zE:∀ w,(Go.sizeOf 141).run Try.prog w = .ok k w) (enc:α→List Value) (f:α→Int) (cf:α→α→Int) (hcf:∀ x y,cf x y<0↔f x<f y) (g:Nat) (cb:Array Value)
    (eg:∀ args w,(callFunc g args).run Try.prog w = .ok (.enter g args) w) (blk off cap sz K a m b:Nat) (za zm zb:Int) (d0 d:Array α) (w0 w:World) (ea:za=a) (em:zm=m) (eb:zb=b)
    (hcmp:CmpLays Try.prog g cb enc k cf blk off sz w0) (R:RowK enc k w0 blk off d0) (hd:d.size=sz) (hs:d0.size=d.size) (S:SWK enc k w0 blk off d w) (h1:a+1<m) (h2:b-m=1) (hb:b≤sz) (hsz:sz<4611686018427387904) (hK:b-a≤K+1) :
    Calls Try.prog 123 #[.slice (some ⟨blk,off,none⟩) sz cap,.int .i64 za,.int .i64 zm,.int .i64 zb,.func (.func g) #[] cb] w fun e w'=>e = .returned (.tuple #[])∧∃ d':Array α,d'.toList=symR f (K+1) d.toList a m b∧d'.size=sz∧SWK enc k w0 blk off d' w':=by
  subst ea;subst em;subst eb
  have mixed:Try.prog.follows Departure.mixedOrders=true:=by kernel_rfl
  have S0:Aside (SWK enc k w0 blk off d w):=S
  have HC:Aside _:=hcmp
  have HCF:Hid (∀ x y,cf x y<0↔f x<f y):=hcf
  clear S hcmp hcf
  go_enter Try.func123,Try.ntmps123
  have r0:(((m:Int)-(a:Int)) == 1)=false:=by simp;omega
  have r2:(b:Int)-(m:Int)=1:=by omega
  go_wp2
  go_loopg [14,15] (m-a) (fun kx s10 s11 wr => ∃ (lo hi q:Nat),s10 = .int .i64 lo∧s11 = .int .i64 hi∧a≤lo∧lo≤hi∧hi≤m∧hi-lo≤kx∧hi-lo≤q∧Aside (SWK enc k w0 blk off d wr)∧Hid (bsR (fun h=>decide (key f d.toList h≤key f d.toList m)) q lo hi=bsR (fun h=>decide (key f d.toList h≤key f d.toList m)) (K+1) a m))
  case atStart=>exact⟨a,m,K+1,by first|rfl|go_num,by first|rfl|go_num,by omega,by omega,by omega,by omega,by omega,S0,rfl⟩
  case round =>
    clear S0
    obtain⟨lo,hi,q,rfl,rfl,hlo,hlh,hhb,hkx,hq,S1,heq⟩:=hrel
    by_cases hlt:(lo:Int)<(hi:Int)
    · obtain⟨q,rfl⟩:∃ p,q=p+1:=⟨q-1,by omega⟩
      have rs:IntKind.i64.wrap ((lo:Int)+(hi:Int))=((lo+hi:Nat):Int):=by rw[IntKind.wrap_i64];omega
      go_wp2_with fail
      obtain⟨c,hc⟩:∃ c,c=(lo+hi) / 2:=⟨_,rfl⟩
      have hcz:((lo:Int)+(hi:Int)) / 2=(c:Int):=by omega
      rw[hcz]
      have pc:(0:Int)≤(c:Int):=by omega
      have bc:(c:Int)<(sz:Int):=by omega
      have pm:(0:Int)≤(m:Int):=by omega
      have bm:(m:Int)<(sz:Int):=by omega
      obtain⟨x,hx⟩:∃ x,x=d[m]! := ⟨_,rfl⟩
      obtain⟨y,hy⟩:∃ x,x=d[c]! := ⟨_,rfl⟩
      have l1:=S1.out.ld R (by omega) Try.prog m (by omega)
      have l2:=S1.out.ld R (by omega) Try.prog c (by omega)
      rw[← hx]at l1
      rw[← hy]at l2
      have hg:=S1.out.cmp HC.out (by omega) x y
      have kc:(fun h=>decide (key f d.toList h≤key f d.toList m)) c = !decide (cf x y<0):=by
        show decide _=_
        rw[key_arr f d c (by omega),key_arr f d m (by omega),← hx,← hy,decide_eq_decide.mpr (HCF.out x y)]
        by_cases q:f x<f y
        · rw[decide_eq_true q,decide_eq_false (by omega)];rfl
        · rw[decide_eq_false q,decide_eq_true (by omega)];rfl
      have KC:Hid _:=kc
      have HX:Hid (c=(lo+hi) / 2):=hc
      have CL:lo≤c∧c<hi:=by omega
      clear hx hy kc hc hcz
      by_cases hv:cf x y<0
      · have hdv:decide (cf x y<0)=true:=decide_eq_true hv
        go_wp2_with fail
        go_quiet_grown (first|(go_at_fn g;refine Calls.grown_of (hg _ _)))
        have S2:Aside (SWK enc k w0 blk off d (grow (wr.drewN nq) osq)):=S1.out.grown nq osq
        clear l1 l2 hg S1
        generalize grow (wr.drewN nq) osq=w2 at S2 ⊢
        clear nq osq
        go_wp2
        go_roundg (c-lo)
        case measure=>omega
        case rel =>
          refine⟨lo,c,q,rfl,by first|rfl|go_num,hlo,by omega,by omega,Nat.le_refl _,by omega,S2,(show Hid _ from ?_)⟩
          show _=_
          rw[← heq.out,bsR,if_pos (by omega),← HX.out,if_neg (by rw[KC.out,hdv];decide)]
      · have hdv:decide (cf x y<0)=false:=decide_eq_false hv
        go_wp2_with fail
        go_quiet_grown (first|(go_at_fn g;refine Calls.grown_of (hg _ _)))
        have S2:Aside (SWK enc k w0 blk off d (grow (wr.drewN nq) osq)):=S1.out.grown nq osq
        clear l1 l2 hg S1
        generalize grow (wr.drewN nq) osq=w2 at S2 ⊢
        clear nq osq
        go_wp2
        go_roundg (hi-(c+1))
        case measure=>omega
        case rel =>
          refine⟨c+1,hi,q,by first|rfl|go_num,rfl,by omega,by omega,hhb,Nat.le_refl _,by omega,S2,(show Hid _ from ?_)⟩
          show _=_
          rw[← heq.out,bsR,if_pos (by omega),← HX.out,if_pos (by rw[KC.out,hdv];rfl)]
    · have eb:lo=bsR (fun h=>decide (key f d.toList h≤key f d.toList m)) (K+1) a m:=by
        rw[← heq.out]
        cases q with
        | zero=>rfl
        | succ q=>rw[bsR,if_neg (by omega)]
      have EB:Hid _:=eb
      clear eb heq
      go_wp2_with fail
      go_loopg [17] (m-lo) (fun kx s17 wr2 => ∃ (i:Nat) (dk:Array α),s17 = .int .i64 i∧lo≤i∧i≤m∧i-lo≤kx∧dk.size=sz∧Aside (SWK enc k w0 blk off dk wr2)∧Hid (downR (i-lo) dk.toList i=downR (m-lo) d.toList m))
      case atStart=>exact⟨m,d,by first|rfl|go_num,by omega,by omega,by omega,hd,S1,rfl⟩
      case round =>
        clear S1
        obtain⟨i,dk,rfl,hai,hil,hkx2,hds,S1,heq2⟩:=hrel
        by_cases hlt2:lo<i
        · obtain⟨i,rfl⟩:∃ p,i=p+1:=⟨i-1,by omega⟩
          have hz2:(lo:Int)<(i:Int)+1:=by omega
          have ri1:IntKind.i64.wrap ((i:Int)+1-1)=(i:Int):=by rw[IntKind.wrap_i64];omega
          go_wp2_with fail
          have pa44:(0:Int)≤(i:Int)+1:=by omega
          have ba44:(i:Int)+1<(sz:Int):=by omega
          have ea44:((i:Int)+1).toNat=i+1:=by omega
          have pc44:(0:Int)≤(i:Int):=by omega
          have bc44:(i:Int)<(sz:Int):=by omega
          have S2:Aside (SWK enc k w0 blk off (Go.Sort.swp dk (i+1) i) ((wr.drew.setCells blk (off+(i+1)*k) (enc dk[i]!)).setCells blk (off+i*k) (enc dk[i+1]!))):=S1.out.swapped R (i+1) i (by omega) (by omega)
          have l44a:=S1.out.ld1 R (by omega) Try.prog (i+1) (by omega)
          have l44b:=S1.out.ld1 R (by omega) Try.prog i (by omega)
          have s44a:=S1.out.st1 R (by omega) Try.prog (i+1) (by omega) dk[i]!
          have s44b:=S1.out.st2 R (by omega) Try.prog (i+1) i (by omega) (by omega) dk[i]! dk[i+1]!
          have n44a:(enc dk[i+1]!).length=k:=R.hk _
          have n44b:(enc dk[i]!).length=k:=R.hk _
          generalize enc dk[i+1]! = cI44 at S2 l44a s44b n44a
          generalize enc dk[i]! = cJ44 at S2 l44b s44a s44b n44b
          clear S1
          go_wp2_with fail
          go_big_region_o
          clear l44a l44b s44a s44b
          generalize (wr.drew.setCells blk (off+(i+1)*k) cJ44).setCells blk (off+i*k) cI44=w2 at S2 ⊢
          go_wp2
          go_roundg (i-lo)
          case measure=>omega
          case rel =>
            refine⟨i,Go.Sort.swp dk (i+1) i,by first|rfl|go_num,by omega,by omega,Nat.le_refl _,by rw[size_swp];exact hds,S2,(show Hid _ from ?_)⟩
            show _=_
            rw[swp_list dk _ _ (by omega) (by omega),← heq2.out,show i+1-lo=(i-lo)+1 from by omega,downR,lswp_comm]
            rfl
        · have hz2:¬(lo:Int)<(i:Int):=by omega
          go_wp2
          refine bodyPost_ret (results_none rfl _ _ _) rfl ?_
          refine⟨rfl,dk,?_,hds,S1.out⟩
          have e:=heq2.out
          rw[show i-lo=0 from by omega]at e
          rw[symR,if_neg (by omega),if_pos (by omega),← EB.out]
          exact e
end
section
open Go.Shelf Go.RowKit Go.Lib Go.Sort Go.Proofs.Ytldiiicbgdfapaa.SortMath
variable {α:Type} [Inhabited α]
set_option maxHeartbeats 4000000 in
set_option maxRecDepth 1000000 in
theorem symMerge.calls (k:Nat) (aE:∀ w,(isAgg 141).run Try.prog w = .ok true w) (zE:∀ w,(Go.sizeOf 141).run Try.prog w = .ok k w) (enc:α→List Value) (f:α→Int) (cf:α→α→Int) (hcf:∀ x y,cf x y<0↔f x<f y) (g:Nat) (cb:Array Value)
    (eg:∀ args w,(callFunc g args).run Try.prog w = .ok (.enter g args) w) (blk off cap sz:Nat) (d0:Array α) (w0:World) (hcmp:CmpLays Try.prog g cb enc k cf blk off sz w0) (R:RowK enc k w0 blk off d0) (hs:d0.size=sz) (hsz:sz<4611686018427387904) (K:Nat) :
    ∀ (a m b:Nat) (za zm zb:Int) (d:Array α) (w:World),za=a→zm=m→zb=b→d.size=sz→SWK enc k w0 blk off d w→a<m→m<b→b≤sz→b-a≤K→
    Calls Try.prog 123 #[.slice (some ⟨blk,off,none⟩) sz cap,.int .i64 za,.int .i64 zm,.int .i64 zb,.func (.func g) #[] cb] w fun e w'=>e = .returned (.tuple #[])∧∃ d':Array α,d'.toList=symR f K d.toList a m b∧d'.size=sz∧SWK enc k w0 blk off d' w':=by
  induction K with
  | zero=>intro a m b za zm zb d w ea em eb hd S ham hmb hb hK;omega
  | succ K ih =>
    intro a m b za zm zb d w ea em eb hd S ham hmb hb hK
    by_cases h1:m-a=1
    · exact symMerge1.calls k aE zE enc f cf hcf g cb eg blk off cap sz K a m b za zm zb d0 d w0 w ea em eb hcmp R hd (by omega) S h1 hmb hb hsz hK
    by_cases h2:b-m=1
    · exact symMerge2.calls k aE zE enc f cf hcf g cb eg blk off cap sz K a m b za zm zb d0 d w0 w ea em eb hcmp R hd (by omega) S (by omega) h2 hb hsz hK
    subst ea;subst em;subst eb
    have IH:Hid _:=ih
    clear ih
    have mixed:Try.prog.follows Departure.mixedOrders=true:=by kernel_rfl
    have S0:Aside (SWK enc k w0 blk off d w):=S
    have HC:Aside _:=hcmp
    have HCF:Hid (∀ x y,cf x y<0↔f x<f y):=hcf
    clear S hcmp hcf
    go_enter Try.func123,Try.ntmps123
    have r0:(((m:Int)-(a:Int)) == 1)=false:=by simp;omega
    have r2:(((b:Int)-(m:Int)) == 1)=false:=by simp;omega
    go_upto_if 140 with fail
    obtain⟨mid,hmid⟩:∃ mid,mid=(a+b) / 2:=⟨_,rfl⟩
    have hmz:((a:Int)+(b:Int)) / 2=(mid:Int):=by omega
    rw[hmz]
    have HM:Hid (mid=(a+b) / 2):=hmid
    have MB:2*mid≤a+b∧a+b≤2*mid+1:=by omega
    clear hmid hmz
    go_cut [20,21]from 25 (fun v20 v21 wc => ∃ (lo hi:Nat),v20 = .int .i64 lo∧v21 = .int .i64 hi∧wc=w∧(mid<m→lo=mid+m-b∧hi=mid)∧(¬mid<m→lo=a∧hi=m))
    case first =>
      by_cases gm:mid<m
      · have gz:(mid:Int)<(m:Int):=by omega
        go_wp2
        go_meet
        case rel=>exact⟨mid+m-b,mid,by first|rfl|go_num,rfl,rfl,fun _=>⟨rfl,rfl⟩,fun h=>absurd gm h⟩
      · have gz:¬(mid:Int)<(m:Int):=by omega
        go_wp2
        go_meet
        case rel=>exact⟨a,m,rfl,rfl,rfl,fun h=>absurd h gm,fun _=>⟨rfl,rfl⟩⟩
    case rest =>
      obtain⟨lo0,hi0,rfl,rfl,hwc,B5,B6⟩:=hcut
      subst hwc
      have BB:a≤lo0∧lo0≤hi0∧hi0≤m∧(∀ c,lo0≤c→c<hi0→m≤mid+m-1-c∧mid+m-1-c<b):=by
        by_cases gm:mid<m
        · have:=B5 gm
          exact⟨by omega,by omega,by omega,fun c _ _=>by omega⟩
        · have:=B6 gm
          exact⟨by omega,by omega,by omega,fun c _ _=>by omega⟩
      obtain⟨B1,B2,B3,B4⟩:=BB
      have BH:Hid (∀ c,lo0≤c→c<hi0→m≤mid+m-1-c∧mid+m-1-c<b):=B4
      have BF:Hid ((mid<m→lo0=mid+m-b∧hi0=mid)∧(¬mid<m→lo0=a∧hi0=m)):=⟨B5,B6⟩
      clear B4 B5 B6
      go_wp2
      obtain⟨p,hp⟩:∃ p,p=mid+m-1:=⟨_,rfl⟩
      have hpz:(mid:Int)+(m:Int)-1=(p:Int):=by omega
      rw[hpz]
      have HP:Hid (p=mid+m-1):=hp
      have PB:p+1=mid+m:=by omega
      clear hp hpz
      go_loopg [20,21] (hi0-lo0) (fun kx s20 s21 wr => ∃ (lo hi q:Nat),s20 = .int .i64 lo∧s21 = .int .i64 hi∧lo0≤lo∧lo≤hi∧hi≤hi0∧hi-lo≤kx∧hi-lo≤q∧Aside (SWK enc k w0 blk off d wr)∧Hid (bsR (fun c=>decide (key f d.toList c≤key f d.toList (p-c))) q lo hi=bsR (fun c=>decide (key f d.toList c≤key f d.toList (p-c))) (K+1) lo0 hi0))
      case atStart=>exact⟨lo0,hi0,K+1,rfl,rfl,by omega,by omega,by omega,by omega,by omega,S0,rfl⟩
      case round =>
        clear S0
        obtain⟨lo,hi,q,rfl,rfl,hlo,hlh,hhb,hkx,hq,S1,heq⟩:=hrel
        by_cases hlt:(lo:Int)<(hi:Int)
        · obtain⟨q,rfl⟩:∃ p,q=p+1:=⟨q-1,by omega⟩
          have rs:IntKind.i64.wrap ((lo:Int)+(hi:Int))=((lo+hi:Nat):Int):=by rw[IntKind.wrap_i64];omega
          go_wp2_with fail
          obtain⟨c,hc⟩:∃ c,c=(lo+hi) / 2:=⟨_,rfl⟩
          have hcz:((lo:Int)+(hi:Int)) / 2=(c:Int):=by omega
          rw[hcz]
          have CB:=BH.out c (by omega) (by omega)
          have pc:(0:Int)≤(c:Int):=by omega
          have bc:(c:Int)<(sz:Int):=by omega
          obtain⟨pn,hpn⟩:∃ pn,pn=p-c:=⟨_,rfl⟩
          have rp:IntKind.i64.wrap ((p:Int)-(c:Int))=(pn:Int):=by rw[IntKind.wrap_i64];omega
          have pp:(0:Int)≤(pn:Int):=by omega
          have bp:(pn:Int)<(sz:Int):=by omega
          obtain⟨x,hx⟩:∃ x,x=d[pn]! := ⟨_,rfl⟩
          obtain⟨y,hy⟩:∃ x,x=d[c]! := ⟨_,rfl⟩
          have l1:=S1.out.ld R (by omega) Try.prog pn (by omega)
          have l2:=S1.out.ld R (by omega) Try.prog c (by omega)
          rw[← hx]at l1
          rw[← hy]at l2
          have hg:=S1.out.cmp HC.out (by omega) x y
          have kc:(fun c=>decide (key f d.toList c≤key f d.toList (p-c))) c = !decide (cf x y<0):=by
            show decide _=_
            rw[key_arr f d c (by omega),← hpn,key_arr f d pn (by omega),← hx,← hy,decide_eq_decide.mpr (HCF.out x y)]
            by_cases q:f x<f y
            · rw[decide_eq_true q,decide_eq_false (by omega)];rfl
            · rw[decide_eq_false q,decide_eq_true (by omega)];rfl
          have KC:Hid _:=kc
          have HX:Hid (c=(lo+hi) / 2):=hc
          have CL:lo≤c∧c<hi:=by omega
          clear hx hy kc hc hcz hpn
          by_cases hv:cf x y<0
          · have hdv:decide (cf x y<0)=true:=decide_eq_true hv
            go_wp2_with fail
            go_quiet_grown (first|(go_at_fn g;refine Calls.grown_of (hg _ _)))
            have S2:Aside (SWK enc k w0 blk off d (grow (wr.drewN nq) osq)):=S1.out.grown nq osq
            clear l1 l2 hg S1
            generalize grow (wr.drewN nq) osq=w2 at S2 ⊢
            clear nq osq
            go_wp2
            go_roundg (c-lo)
            case measure=>omega
            case rel =>
              refine⟨lo,c,q,rfl,by first|rfl|go_num,hlo,by omega,by omega,Nat.le_refl _,by omega,S2,(show Hid _ from ?_)⟩
              show _=_
              rw[← heq.out,bsR,if_pos (by omega),← HX.out,if_neg (by rw[KC.out,hdv];decide)]
          · have hdv:decide (cf x y<0)=false:=decide_eq_false hv
            go_wp2_with fail
            go_quiet_grown (first|(go_at_fn g;refine Calls.grown_of (hg _ _)))
            have S2:Aside (SWK enc k w0 blk off d (grow (wr.drewN nq) osq)):=S1.out.grown nq osq
            clear l1 l2 hg S1
            generalize grow (wr.drewN nq) osq=w2 at S2 ⊢
            clear nq osq
            go_wp2
            go_roundg (hi-(c+1))
            case measure=>omega
            case rel =>
              refine⟨c+1,hi,q,by first|rfl|go_num,rfl,by omega,by omega,hhb,Nat.le_refl _,by omega,S2,(show Hid _ from ?_)⟩
              show _=_
              rw[← heq.out,bsR,if_pos (by omega),← HX.out,if_pos (by rw[KC.out,hdv];rfl)]
        · have eb:lo=bsR (fun c=>decide (key f d.toList c≤key f d.toList (p-c))) (K+1) lo0 hi0:=by
            rw[← heq.out]
            cases q with
            | zero=>rfl
            | succ q=>rw[bsR,if_neg (by omega)]
          have EB:Hid _:=eb
          have EE:m≤mid+m-lo∧mid+m-lo≤b∧lo≤m∧lo≤mid+m:=by
            by_cases gm:mid<m
            · have:=BF.out.1 gm;omega
            · have:=BF.out.2 gm;omega
          clear eb heq
          have re:IntKind.i64.wrap ((mid:Int)+(m:Int)-(lo:Int))=(mid:Int)+(m:Int)-(lo:Int):=by rw[IntKind.wrap_i64];omega
          go_upto_region 39 with fail
          obtain⟨e,he⟩:∃ e,e=mid+m-lo:=⟨_,rfl⟩
          have hez:(mid:Int)+(m:Int)-(lo:Int)=(e:Int):=by omega
          rw[hez]
          have HE:Hid (e=mid+m-lo):=he
          have E2:m≤e∧e≤b∧lo≤m∧e+lo=mid+m∧lo0≤lo∧a≤lo0:=by omega
          clear he hez re hlo hlh hhb hkx hq hlt EE B1 B2 B3
          obtain⟨E2,E3,E4,E5,E6,E7⟩:=E2
          have SY:symR f (K+1) d.toList a m b=(if mid<e∧e<b then symR f K (if a<lo∧lo<mid then symR f K (if lo<m∧m<e then rotR (K+1) d.toList m (m-lo) (e-m)else d.toList) a lo mid else(if lo<m∧m<e then rotR (K+1) d.toList m (m-lo) (e-m)else d.toList)) mid e b else(if a<lo∧lo<mid then symR f K (if lo<m∧m<e then rotR (K+1) d.toList m (m-lo) (e-m)else d.toList) a lo mid else(if lo<m∧m<e then rotR (K+1) d.toList m (m-lo) (e-m)else d.toList))):=by
            have q0:lo0=(if mid<m then mid+m-b else a):=by
              by_cases gm:mid<m
              · rw[if_pos gm];exact(BF.out.1 gm).1
              · rw[if_neg gm];exact(BF.out.2 gm).1
            have q1:hi0=(if mid<m then mid else m):=by
              by_cases gm:mid<m
              · rw[if_pos gm];exact(BF.out.1 gm).2
              · rw[if_neg gm];exact(BF.out.2 gm).2
            rw[symR,if_neg h1,if_neg h2]
            simp only[← HM.out,← HP.out,← q0,← q1,← EB.out,← HE.out]
          have SYH:Hid _:=SY
          clear SY EB BF BH
          go_cut [185]from 186 (fun v185 wc=>v185 = .bool (decide (lo<m∧m<e))∧wc=wr)
          case first =>
            by_cases ga:lo<m
            · have gz:(lo:Int)<(m:Int):=by omega
              by_cases gb:m<e
              · have gz2:(m:Int)<(e:Int):=by omega
                go_wp2
                go_meet
                case rel=>exact⟨by rw[decide_eq_true ⟨ga,gb⟩],rfl⟩
              · have gz2:¬(m:Int)<(e:Int):=by omega
                go_wp2
                go_meet
                case rel=>exact⟨by rw[decide_eq_false (fun h=>gb h.2)],rfl⟩
            · have gz:¬(lo:Int)<(m:Int):=by omega
              go_wp2
              go_meet
              case rel=>exact⟨by rw[decide_eq_false (fun h=>ga h.1)],rfl⟩
          case rest =>
            obtain⟨rfl,hwc⟩:=hcut
            subst hwc
            go_upto_if 185 with fail
            go_cut []from 25 (fun wc => ∃ d1:Array α,d1.size=sz∧Hid (d1.toList=(if lo<m∧m<e then rotR (K+1) d.toList m (m-lo) (e-m)else d.toList))∧Aside (SWK enc k w0 blk off d1 wc))
            case first =>
              by_cases gc:lo<m∧m<e
              · have gd:decide (lo<m∧m<e)=true:=decide_eq_true gc
                have GC:Hid (lo<m∧m<e):=gc
                clear gc
                go_wp2_with (first|(go_at_call 124;refine(rotate.calls k aE zE enc g cb blk off cap sz lo m e _ _ _ d0 d w0 _ (by omega) (by omega) (by omega) R hd (by omega) S1.out GC.out.1 GC.out.2 (by omega) hsz).mono ?_;rintro e' w2 ⟨rfl,d1,e1,s1,S2⟩))
                go_meet
                case rel=>exact⟨d1,s1,(by show _=_;rw[if_pos GC.out,e1];exact rotR_irrel _ _ _ _ _ _ (by have:=GC.out;omega) (by have:=GC.out;omega) (by have:=GC.out;omega) (by have:=GC.out;omega)),S2⟩
              · have gd:decide (lo<m∧m<e)=false:=decide_eq_false gc
                have GC:Hid (¬(lo<m∧m<e)):=gc
                clear gc
                go_wp2
                go_meet
                case rel=>exact⟨d,hd,(by show _=_;rw[if_neg GC.out]),S1⟩
            case rest =>
              clear S1
              obtain⟨d1,s1,e1,S1⟩:=hcut
              go_upto_region 41 with fail
              go_cut [199]from 200 (fun v199 wc2=>v199 = .bool (decide (a<lo∧lo<mid))∧wc2=wc)
              case first =>
                by_cases ga:a<lo
                · have gz:(a:Int)<(lo:Int):=by omega
                  by_cases gb:lo<mid
                  · have gz2:(lo:Int)<(mid:Int):=by omega
                    go_wp2
                    go_meet
                    case rel=>exact⟨by rw[decide_eq_true ⟨ga,gb⟩],rfl⟩
                  · have gz2:¬(lo:Int)<(mid:Int):=by omega
                    go_wp2
                    go_meet
                    case rel=>exact⟨by rw[decide_eq_false (fun h=>gb h.2)],rfl⟩
                · have gz:¬(a:Int)<(lo:Int):=by omega
                  go_wp2
                  go_meet
                  case rel=>exact⟨by rw[decide_eq_false (fun h=>ga h.1)],rfl⟩
              case rest =>
                obtain⟨rfl,hwc⟩:=hcut
                subst hwc
                go_upto_if 199 with fail
                go_cut []from 25 (fun wc3 => ∃ d2:Array α,d2.size=sz∧Hid (d2.toList=(if a<lo∧lo<mid then symR f K d1.toList a lo mid else d1.toList))∧Aside (SWK enc k w0 blk off d2 wc3))
                case first =>
                  by_cases gc:a<lo∧lo<mid
                  · have gd:decide (a<lo∧lo<mid)=true:=decide_eq_true gc
                    have GC:Hid (a<lo∧lo<mid):=gc
                    clear gc
                    go_wp2_with (first|(go_at_call 123;refine(IH.out a lo mid _ _ _ d1 _ (by omega) (by omega) (by omega) s1 S1.out GC.out.1 GC.out.2 (by omega) (by omega)).mono ?_;rintro e' w2 ⟨rfl,d2,e2,s2,S2⟩))
                    go_meet
                    case rel=>exact⟨d2,s2,(by show _=_;rw[if_pos GC.out,e2]),S2⟩
                  · have gd:decide (a<lo∧lo<mid)=false:=decide_eq_false gc
                    have GC:Hid (¬(a<lo∧lo<mid)):=gc
                    clear gc
                    go_wp2
                    go_meet
                    case rel=>exact⟨d1,s1,(by show _=_;rw[if_neg GC.out]),S1⟩
                case rest =>
                  clear S1
                  obtain⟨d2,s2,e2,S1⟩:=hcut
                  go_upto_region 43 with fail
                  go_cut [213]from 214 (fun v213 wc4=>v213 = .bool (decide (mid<e∧e<b))∧wc4=wc)
                  case first =>
                    by_cases ga:mid<e
                    · have gz:(mid:Int)<(e:Int):=by omega
                      by_cases gb:e<b
                      · have gz2:(e:Int)<(b:Int):=by omega
                        go_wp2
                        go_meet
                        case rel=>exact⟨by rw[decide_eq_true ⟨ga,gb⟩],rfl⟩
                      · have gz2:¬(e:Int)<(b:Int):=by omega
                        go_wp2
                        go_meet
                        case rel=>exact⟨by rw[decide_eq_false (fun h=>gb h.2)],rfl⟩
                    · have gz:¬(mid:Int)<(e:Int):=by omega
                      go_wp2
                      go_meet
                      case rel=>exact⟨by rw[decide_eq_false (fun h=>ga h.1)],rfl⟩
                  case rest =>
                    obtain⟨rfl,hwc⟩:=hcut
                    subst hwc
                    by_cases gc:mid<e∧e<b
                    · have gd:decide (mid<e∧e<b)=true:=decide_eq_true gc
                      have GC:Hid (mid<e∧e<b):=gc
                      clear gc
                      go_wp2_with (first|(go_at_call 123;refine(IH.out mid e b _ _ _ d2 _ (by omega) (by omega) (by omega) s2 S1.out GC.out.1 GC.out.2 hb (by omega)).mono ?_;rintro e' w2 ⟨rfl,d3,e3,s3,S2⟩))
                      go_end0
                      refine⟨rfl,d3,?_,s3,S2⟩
                      rw[SYH.out,if_pos GC.out,e3,e2.out,e1.out]
                    · have gd:decide (mid<e∧e<b)=false:=decide_eq_false gc
                      have GC:Hid (¬(mid<e∧e<b)):=gc
                      clear gc
                      go_wp2
                      go_end0
                      refine⟨rfl,d2,?_,s2,S1.out⟩
                      rw[SYH.out,if_neg GC.out,e2.out,e1.out]
end
section
open Go.Shelf Go.RowKit Go.Lib Go.Sort Go.Proofs.Ytldiiicbgdfapaa.SortMath
variable {α:Type} [Inhabited α]
set_option maxHeartbeats 4000000 in
set_option maxRecDepth 1000000 in
theorem insertion.calls (k:Nat) (aE:∀ w,(isAgg 141).run Try.prog w = .ok true w) (zE:∀ w,(Go.sizeOf 141).run Try.prog w = .ok k w) (enc:α→List Value) (f:α→Int) (cf:α→α→Int) (hcf:∀ x y,cf x y<0↔f x<f y) (g:Nat) (cb:Array Value)
    (eg:∀ args w,(callFunc g args).run Try.prog w = .ok (.enter g args) w) (blk off cap sz a b q0:Nat) (za zb:Int) (d0 d:Array α) (w0 w:World) (ea:za=a) (eb:zb=b)
    (hcmp:CmpLays Try.prog g cb enc k cf blk off sz w0) (R:RowK enc k w0 blk off d0) (hd:d.size=sz) (hs:d0.size=d.size) (S:SWK enc k w0 blk off d w) (hab:a≤b) (hb:b≤sz) (hsz:sz<4611686018427387904) (hq0:2*(b-a)+2≤q0) :
    Calls Try.prog 122 #[.slice (some ⟨blk,off,none⟩) sz cap,.int .i64 za,.int .i64 zb,.func (.func g) #[] cb] w fun e w'=>e = .returned (.tuple #[])∧∃ d':Array α,d'.toList=insR f q0 d.toList a b (a+1)∧d'.size=sz∧SWK enc k w0 blk off d' w':=by
  subst ea;subst eb
  have mixed:Try.prog.follows Departure.mixedOrders=true:=by kernel_rfl
  have S0:Aside (SWK enc k w0 blk off d w):=S
  have HC:Aside _:=hcmp
  have HCF:Hid (∀ x y,cf x y<0↔f x<f y):=hcf
  clear S hcmp hcf
  go_enter Try.func122,Try.ntmps122
  go_wp2
  go_loopg [8] (b-a) (fun kx s8 wr => ∃ (i q:Nat) (dk:Array α),s8 = .int .i64 i∧a<i∧i≤b+1∧b+1-i≤kx+1∧2*(b-a)+2+a+1≤q+i∧dk.size=sz∧Aside (SWK enc k w0 blk off dk wr)∧Hid (insR f q dk.toList a b i=insR f q0 d.toList a b (a+1)))
  case atStart=>exact⟨a+1,q0,d,by first|rfl|go_num,by omega,by omega,by omega,by omega,hd,S0,rfl⟩
  case round =>
    clear S0
    obtain⟨i,q,dk,rfl,hai,hib,hkx,hq,hds,S1,heq⟩:=hrel
    by_cases hlt:i<b
    · have hz:(i:Int)<(b:Int):=by omega
      obtain⟨q,rfl⟩:∃ p,q=p+1:=⟨q-1,by omega⟩
      go_wp2
      go_loopg [9] (i-a) (fun kx2 s9 wr2 => ∃ (j r:Nat) (dj:Array α),s9 = .int .i64 j∧a≤j∧j≤i∧j-a≤kx2∧j-a<r∧dj.size=sz∧Aside (SWK enc k w0 blk off dj wr2)∧Hid (insD f r dj.toList a j=insD f q dk.toList a i))
      case atStart=>exact⟨i,q,dk,rfl,by omega,by omega,by omega,by omega,hds,S1,rfl⟩
      case round =>
        clear S1
        obtain⟨j,r,dj,rfl,haj,hji,hkx2,hr,hdj,S1,heq2⟩:=hrel
        obtain⟨r,rfl⟩:∃ p,r=p+1:=⟨r-1,by omega⟩
        by_cases hja:a<j
        · have hjz:(a:Int)<(j:Int):=by omega
          obtain⟨jp,rfl⟩:∃ p,j=p+1:=⟨j-1,by omega⟩
          have hjz':(a:Int)<(jp:Int)+1:=by omega
          have rj:IntKind.i64.wrap (jp:Int)=(jp:Int):=by rw[IntKind.wrap_i64];omega
          have p1:(0:Int)≤(jp:Int)+1:=by omega
          have b1:(jp:Int)+1<(sz:Int):=by omega
          have e1:((jp:Int)+1).toNat=jp+1:=by omega
          have p2:(0:Int)≤(jp:Int):=by omega
          have b2:(jp:Int)<(sz:Int):=by omega
          obtain⟨x,hx⟩:∃ x,x=dj[jp+1]! := ⟨_,rfl⟩
          obtain⟨y,hy⟩:∃ x,x=dj[jp]! := ⟨_,rfl⟩
          have l1:=S1.out.ld R (by omega) Try.prog (jp+1) (by omega)
          have l2:=S1.out.ld R (by omega) Try.prog jp (by omega)
          rw[← hx]at l1
          rw[← hy]at l2
          have hg:=S1.out.cmp HC.out (by omega) x y
          have kc:(key f dj.toList (jp+1)<key f dj.toList (jp+1-1))↔cf x y<0:=by
            rw[key_arr f dj (jp+1) (by omega),Nat.add_sub_cancel,key_arr f dj jp (by omega),← hx,← hy]
            exact(HCF.out x y).symm
          have KC:Hid _:=kc
          clear hx hy kc
          by_cases hv:cf x y<0
          · have hdv:decide (cf x y<0)=true:=decide_eq_true hv
            go_wp2_with fail
            go_quiet_grown (first|(go_at_fn g;refine Calls.grown_of (hg _ _)))
            have S2:Aside (SWK enc k w0 blk off dj (grow (wr.drewN nq) osq)):=S1.out.grown nq osq
            clear l1 l2 hg S1
            generalize grow (wr.drewN nq) osq=w2 at S2 ⊢
            clear nq osq
            go_wp2_with fail
            have S3:Aside (SWK enc k w0 blk off (Go.Sort.swp dj (jp+1) jp) ((w2.drew.setCells blk (off+(jp+1)*k) (enc dj[jp]!)).setCells blk (off+jp*k) (enc dj[jp+1]!))):=S2.out.swapped R (jp+1) jp (by omega) (by omega)
            have l44a:=S2.out.ld1 R (by omega) Try.prog (jp+1) (by omega)
            have l44b:=S2.out.ld1 R (by omega) Try.prog jp (by omega)
            have s44a:=S2.out.st1 R (by omega) Try.prog (jp+1) (by omega) dj[jp]!
            have s44b:=S2.out.st2 R (by omega) Try.prog (jp+1) jp (by omega) (by omega) dj[jp]! dj[jp+1]!
            have n44a:(enc dj[jp+1]!).length=k:=R.hk _
            have n44b:(enc dj[jp]!).length=k:=R.hk _
            generalize enc dj[jp+1]! = cI44 at S3 l44a s44b n44a
            generalize enc dj[jp]! = cJ44 at S3 l44b s44a s44b n44b
            clear S2
            go_big_region_o
            clear l44a l44b s44a s44b
            generalize (w2.drew.setCells blk (off+(jp+1)*k) cJ44).setCells blk (off+jp*k) cI44=w3 at S3 ⊢
            go_wp2
            go_roundg (jp-a)
            case measure=>omega
            case rel =>
              refine⟨jp,r,Go.Sort.swp dj (jp+1) jp,by first|rfl|go_num,by omega,by omega,Nat.le_refl _,by omega,by rw[size_swp];exact hdj,S3,(show Hid _ from ?_)⟩
              show _=_
              rw[swp_list dj _ _ (by omega) (by omega),← heq2.out,insD,if_pos ⟨hja,KC.out.mpr hv⟩,lswp_comm]
              rfl
          · have hdv:decide (cf x y<0)=false:=decide_eq_false hv
            go_wp2_with fail
            go_quiet_grown (first|(go_at_fn g;refine Calls.grown_of (hg _ _)))
            have S2:Aside (SWK enc k w0 blk off dj (grow (wr.drewN nq) osq)):=S1.out.grown nq osq
            clear l1 l2 hg S1
            generalize grow (wr.drewN nq) osq=w2 at S2 ⊢
            clear nq osq
            go_wp2
            go_roundg (b-(i+1))
            case measure=>omega
            case rel =>
              refine⟨i+1,q,dj,by first|rfl|go_num,by omega,by omega,by omega,by omega,hdj,S2,(show Hid _ from ?_)⟩
              show _=_
              rw[← heq.out,insR,if_pos hlt,← heq2.out,insD,if_neg (fun h=>by have:=KC.out.mp h.2;omega)]
        · have hjz:¬(a:Int)<(j:Int):=by omega
          have hjd:decide ((j:Int)>(a:Int))=false:=decide_eq_false (by omega)
          have S2:Aside (SWK enc k w0 blk off dj wr.drew):=S1.out.drew
          go_wp2_with fail
          go_big_region_o
          all_goals go_wp2
          go_roundg (b-(i+1))
          case measure=>omega
          case rel =>
            refine⟨i+1,q,dj,by first|rfl|go_num,by omega,by omega,by omega,by omega,hdj,S2,(show Hid _ from ?_)⟩
            show _=_
            rw[← heq.out,insR,if_pos hlt,← heq2.out,insD,if_neg (fun h=>hja h.1)]
    · have hz:¬(i:Int)<(b:Int):=by omega
      go_wp2
      go_end0
      refine⟨rfl,dk,?_,hds,S1.out⟩
      rw[← heq.out]
      cases q with
      | zero=>rfl
      | succ q=>rw[insR,if_neg hlt]
end
section
open Go.Shelf Go.RowKit Go.Lib Go.Sort Go.Proofs.Ytldiiicbgdfapaa.SortMath
variable {α:Type} [Inhabited α]
set_option maxHeartbeats 4000000 in
set_option maxRecDepth 1000000 in
theorem stable.calls (k:Nat) (aE:∀ w,(isAgg 141).run Try.prog w = .ok true w) (zE:∀ w,(Go.sizeOf 141).run Try.prog w = .ok k w) (enc:α→List Value) (f:α→Int) (cf:α→α→Int) (hcf:∀ x y,cf x y<0↔f x<f y) (g:Nat) (cb:Array Value)
    (eg:∀ args w,(callFunc g args).run Try.prog w = .ok (.enter g args) w) (blk off cap sz:Nat) (zn:Int) (d0 d:Array α) (w0 w:World) (en:zn=sz)
    (hcmp:CmpLays Try.prog g cb enc k cf blk off sz w0) (R:RowK enc k w0 blk off d0) (hd:d.size=sz) (hs:d0.size=sz) (S:SWK enc k w0 blk off d w) (hsz:sz<1152921504606846976) :
    Calls Try.prog 118 #[.slice (some ⟨blk,off,none⟩) sz cap,.int .i64 zn,.func (.func g) #[] cb] w fun e w'=>e = .returned (.tuple #[])∧∃ d':Array α,d'.toList=stabR f (sz+1) (blkR f 20 (sz+1) d.toList 0) 20∧d'.size=sz∧SWK enc k w0 blk off d' w':=by
  subst en
  have S0:Aside (SWK enc k w0 blk off d w):=S
  have HC:Aside _:=hcmp
  have HCF:Hid (∀ x y,cf x y<0↔f x<f y):=hcf
  clear S hcmp hcf
  go_enter Try.func118,Try.ntmps118
  go_wp2
  go_loopg [7,8] sz (fun kx s7 s8 wr => ∃ (a q:Nat) (dk:Array α),s7 = .int .i64 a∧s8 = .int .i64 ((a+20:Nat):Int)∧a≤sz∧sz-a≤kx∧sz<a+q∧dk.size=sz∧Aside (SWK enc k w0 blk off dk wr)∧Hid (blkR f 20 q dk.toList a=blkR f 20 (sz+1) d.toList 0))
  case atStart=>exact⟨0,sz+1,d,by first|rfl|go_num,by first|rfl|go_num,by omega,by omega,by omega,hd,S0,rfl⟩
  case round =>
    clear S0
    obtain⟨a,q,dk,rfl,rfl,ha,hkx,hq,hds,S1,heq⟩:=hrel
    obtain⟨q,rfl⟩:∃ p,q=p+1:=⟨q-1,by omega⟩
    by_cases hlt:a+20≤sz
    · have hz:((a+20:Nat):Int)≤(sz:Int):=by omega
      have rb:IntKind.i64.wrap (((a+20:Nat):Int)+20)=((a+20+20:Nat):Int):=by rw[IntKind.wrap_i64];omega
      go_wp2_with (first|(go_at_call 122;refine(insertion.calls k aE zE enc f cf HCF.out g cb eg blk off cap sz a (a+20) (2*20+2) _ _ d0 dk w0 _ (by omega) (by omega) HC.out R hds (by omega) S1.out (by omega) hlt (by omega) (by omega)).mono ?_;rintro e' w2 ⟨rfl,d2,e2,s2,S2⟩))
      go_roundg (sz-(a+20))
      case measure=>omega
      case rel =>
        refine⟨a+20,q,d2,by first|rfl|go_num,by first|rfl|go_num,hlt,Nat.le_refl _,by omega,s2,S2,(show Hid _ from ?_)⟩
        show _=_
        rw[← heq.out,e2]
        conv=>rhs;rw[blkR,if_pos (by rw[Array.length_toList,hds];exact hlt)]
    · have hz:¬((a+20:Nat):Int)≤(sz:Int):=by omega
      have BK:Hid (blkR f 20 (sz+1) d.toList 0=insR f (2*20+2) dk.toList a sz (a+1)):=by
        show _=_
        rw[← heq.out,blkR,if_neg (by rw[Array.length_toList,hds];exact hlt),Array.length_toList,hds]
      clear heq
      go_wp2_with (first|(go_at_call 122;refine(insertion.calls k aE zE enc f cf HCF.out g cb eg blk off cap sz a sz (2*20+2) _ _ d0 dk w0 _ (by omega) (by omega) HC.out R hds (by omega) S1.out ha (Nat.le_refl _) (by omega) (by omega)).mono ?_;rintro e' w2 ⟨rfl,d2,e2,s2,S2⟩))
      clear S1
      have BK2:Hid (blkR f 20 (sz+1) d.toList 0=d2.toList):=by show _=_;rw[BK.out,e2]
      clear BK e2
      go_loopg [6] (sz+1) (fun kx s6 wr => ∃ (bs q:Nat) (dk:Array α),s6 = .int .i64 bs∧0<bs∧bs≤2*sz+20∧sz+1-bs≤kx∧sz<q+bs∧dk.size=sz∧Aside (SWK enc k w0 blk off dk wr)∧Hid (stabR f q dk.toList bs=stabR f (sz+1) d2.toList 20))
      case atStart=>exact⟨20,sz+1,d2,by first|rfl|go_num,by omega,by omega,by omega,by omega,s2,S2,rfl⟩
      case round =>
        clear S2
        obtain⟨bs,q,dk,rfl,hb0,hb1,hkx,hq,hds,S1,heq⟩:=hrel
        by_cases hlt:bs<sz
        · have hz:(bs:Int)<(sz:Int):=by omega
          obtain⟨q,rfl⟩:∃ p,q=p+1:=⟨q-1,by omega⟩
          have r2:IntKind.i64.wrap (2*(bs:Int))=((2*bs:Nat):Int):=by rw[IntKind.wrap_i64];omega
          have r2':IntKind.i64.wrap ((bs:Int)*2)=((2*bs:Nat):Int):=by rw[IntKind.wrap_i64];omega
          go_wp2
          go_loopg [7,8] sz (fun kx2 s7 s8 wr2 => ∃ (a p:Nat) (dj:Array α),s7 = .int .i64 a∧s8 = .int .i64 ((a+2*bs:Nat):Int)∧a≤sz∧sz-a≤kx2∧sz<a+p∧dj.size=sz∧Aside (SWK enc k w0 blk off dj wr2)∧Hid (mrgR f bs p dj.toList a=mrgR f bs (sz+1) dk.toList 0))
          case atStart=>exact⟨0,sz+1,dk,by first|rfl|go_num,by first|rfl|go_num,by omega,by omega,by omega,hds,S1,rfl⟩
          case round =>
            clear S1
            obtain⟨a,p,dj,rfl,rfl,ha,hkx2,hp,hdj,S1,heq2⟩:=hrel
            obtain⟨p,rfl⟩:∃ x,p=x+1:=⟨p-1,by omega⟩
            have rab:IntKind.i64.wrap ((a:Int)+(bs:Int))=((a+bs:Nat):Int):=by rw[IntKind.wrap_i64];omega
            by_cases hlt2:a+2*bs≤sz
            · have hz2:((a+2*bs:Nat):Int)≤(sz:Int):=by omega
              have rbb:IntKind.i64.wrap (((a+2*bs:Nat):Int)+((2*bs:Nat):Int))=((a+2*bs+2*bs:Nat):Int):=by rw[IntKind.wrap_i64];omega
              go_wp2_with (first|(go_at_call 123;refine(symMerge.calls k aE zE enc f cf HCF.out g cb eg blk off cap sz d0 w0 HC.out R hs (by omega) (2*bs) a (a+bs) (a+2*bs) _ _ _ dj _ (by omega) (by omega) (by omega) hdj S1.out (by omega) (by omega) hlt2 (by omega)).mono ?_;rintro e' w2 ⟨rfl,d3,e3,s3,S2⟩))
              go_roundg (sz-(a+2*bs))
              case measure=>omega
              case rel =>
                refine⟨a+2*bs,p,d3,by first|rfl|go_num,by first|rfl|go_num,hlt2,Nat.le_refl _,by omega,s3,S2,(show Hid _ from ?_)⟩
                show _=_
                rw[← heq2.out,e3]
                conv=>rhs;rw[mrgR,if_pos (by rw[Array.length_toList,hdj];exact hlt2)]
            · have hz2:¬((a+2*bs:Nat):Int)≤(sz:Int):=by omega
              have ST:Hid (stabR f (sz+1) d2.toList 20=stabR f q (mrgR f bs (sz+1) dk.toList 0) (2*bs)):=by
                show _=_
                rw[← heq.out,stabR,if_pos (by rw[Array.length_toList,hds];exact hlt),Array.length_toList,hds]
              by_cases hlt3:a+bs<sz
              · have hz3:((a+bs:Nat):Int)<(sz:Int):=by omega
                go_wp2_with (first|(go_at_call 123;refine(symMerge.calls k aE zE enc f cf HCF.out g cb eg blk off cap sz d0 w0 HC.out R hs (by omega) (2*bs) a (a+bs) sz _ _ _ dj _ (by omega) (by omega) (by omega) hdj S1.out (by omega) hlt3 (Nat.le_refl _) (by omega)).mono ?_;rintro e' w2 ⟨rfl,d3,e3,s3,S2⟩))
                go_roundg (sz+1-2*bs)
                case measure=>omega
                case rel =>
                  refine⟨2*bs,q,d3,by first|rfl|go_num,by omega,by omega,Nat.le_refl _,by omega,s3,S2,(show Hid _ from ?_)⟩
                  show _=_
                  rw[ST.out,← heq2.out,e3,mrgR,if_neg (by rw[Array.length_toList,hdj];exact hlt2),if_pos (by rw[Array.length_toList,hdj];exact hlt3),Array.length_toList,hdj]
              · have hz3:¬((a+bs:Nat):Int)<(sz:Int):=by omega
                go_wp2
                go_roundg (sz+1-2*bs)
                case measure=>omega
                case rel =>
                  refine⟨2*bs,q,dj,by first|rfl|go_num,by omega,by omega,Nat.le_refl _,by omega,hdj,S1,(show Hid _ from ?_)⟩
                  show _=_
                  rw[ST.out,← heq2.out,mrgR,if_neg (by rw[Array.length_toList,hdj];exact hlt2),if_neg (by rw[Array.length_toList,hdj];exact hlt3)]
        · have hz:¬(bs:Int)<(sz:Int):=by omega
          go_wp2
          go_end0
          refine⟨rfl,dk,?_,hds,S1.out⟩
          rw[BK2.out,← heq.out]
          cases q with
          | zero=>rfl
          | succ q=>rw[stabR,if_neg (by rw[Array.length_toList,hds];exact hlt)]
end
section
open Go.Shelf Go.RowKit Go.Lib Go.Sort Go.Proofs.Ytldiiicbgdfapaa.SortMath
variable {α:Type} [Inhabited α]
structure Cn where
  w:Int
  A:Option Addr
  n:Nat
  c:Nat
instance:Inhabited Cn:=⟨⟨0,none,0,0⟩⟩
def encC (x:Cn):List Value:=[.int .i64 x.w,.slice x.A x.n x.c]
def cmpI (x y:Int):Int:=if x<y then -1 else if y<x then 1 else 0
def cfC (x y:Cn):Int:=cmpI x.w y.w
theorem cfC_lt (x y:Cn):cfC x y<0↔x.w<y.w:=by
  unfold cfC cmpI
  by_cases h:x.w<y.w
  · simp[h]
  · by_cases g:y.w<x.w <;> simp[h,g]
set_option maxHeartbeats 1000000 in
theorem isNaN.calls (x:Int) (w:World):Calls Try.prog 119 #[.int .i64 x] w fun e w'=>e = .returned (.bool false)∧w'=w:=by
  go_enter Try.func119,Try.ntmps119
  go_wp2
  go_ret
  simp
set_option maxHeartbeats 1000000 in
theorem compare.calls (x y:Int) (w:World):Calls Try.prog 114 #[.int .i64 x,.int .i64 y] w fun e w'=>e = .returned (.int .i64 (cmpI x y))∧w'=w:=by
  go_enter Try.func114,Try.ntmps114
  go_wp2_with (first|(go_at_call 119;refine(isNaN.calls _ _).mono ?_;rintro e w2 ⟨rfl,rfl⟩))
  all_goals first
    | (exfalso;omega)
    | (go_ret;exact⟨by unfold cmpI;split <;> (try split) <;> first|rfl|(exfalso;omega),rfl⟩)
set_option maxHeartbeats 1000000 in
theorem less113.calls (x y:Cn) (W:World):Calls Try.prog 113 (#[.agg (encC x).toArray,.agg (encC y).toArray] ++ #[]) W fun e w'=>e = .returned (.int .i64 (cfC x y))∧∃ q os',w'=grow (W.drewN q) os':=by
  unfold encC
  go_enter Try.func113,Try.ntmps113
  go_wp2_with (first|(go_at_call 114;refine(compare.calls _ _ _).mono ?_;rintro e w2 ⟨rfl,rfl⟩))
  go_ret
  refine⟨rfl,0,#[.cells #[.int .i64 x.w,.slice x.A x.n x.c] 141,.cells #[.int .i64 y.w,.slice y.A y.n y.c] 141],?_⟩
  rw[alloc_eq_grow,alloc_eq_grow,grow_grow]
  rfl
set_option maxHeartbeats 1000000 in
theorem less115.calls (x y:Cn) (W:World):Calls Try.prog 115 (#[.agg (encC x).toArray,.agg (encC y).toArray] ++ #[]) W fun e w'=>e = .returned (.int .i64 (cfC x y))∧∃ q os',w'=grow (W.drewN q) os':=by
  unfold encC
  go_enter Try.func115,Try.ntmps115
  go_wp2_with (first|(go_at_call 114;refine(compare.calls _ _ _).mono ?_;rintro e w2 ⟨rfl,rfl⟩))
  go_ret
  refine⟨rfl,0,#[.cells #[.int .i64 x.w,.slice x.A x.n x.c] 141,.cells #[.int .i64 y.w,.slice y.A y.n y.c] 141],?_⟩
  rw[alloc_eq_grow,alloc_eq_grow,grow_grow]
  rfl
theorem lays (p:α→Cn) (g:Nat) (hg:g=113∨g=115) (blk off size:Nat) (w:World):CmpLays Try.prog g #[] (fun x=>encC (p x)) 2 (fun x y=>cfC (p x) (p y)) blk off size w:=by
  intro m os dk _ x y
  rcases hg with rfl|rfl
  · exact less113.calls (p x) (p y) _
  · exact less115.calls (p x) (p y) _
set_option maxRecDepth 1000000 in
theorem agg141 (w:World):(isAgg 141).run Try.prog w = .ok true w:=by rfl
set_option maxRecDepth 1000000 in
theorem size141 (w:World):(Go.sizeOf 141).run Try.prog w = .ok 2 w:=by rfl
set_option maxRecDepth 1000000 in
theorem enter113 (args:Array Value) (w:World):(callFunc 113 args).run Try.prog w = .ok (.enter 113 args) w:=by rfl
set_option maxRecDepth 1000000 in
theorem enter115 (args:Array Value) (w:World):(callFunc 115 args).run Try.prog w = .ok (.enter 115 args) w:=by rfl
set_option maxHeartbeats 1000000 in
theorem sortStable.calls (p:α→Cn) (g:Nat) (hg:g=113∨g=115) (blk off cap:Nat) (d:Array α) (w:World) (hH:HoldsK (fun x=>encC (p x)) 2 w blk off d) (hblk:blk<w.heap.size) (hsz:d.size<1152921504606846976) :
    Calls Try.prog 112 #[.slice (some ⟨blk,off,none⟩) d.size cap,.func (.func g) #[] #[]] w fun e w'=>e = .returned (.tuple #[])∧∃ d':Array α,Srt (fun x=>(p x).w) d'.toList∧Same (fun x=>(p x).w) d.toList d'.toList∧d'.size=d.size∧SWK (fun x=>encC (p x)) 2 w blk off d' w':=by
  have R:RowK (fun x=>encC (p x)) 2 w blk off d:=⟨fun _=>rfl,fun x v hv=>by
    simp only[encC,List.mem_cons,List.not_mem_nil,or_false]at hv
    rcases hv with rfl|rfl <;> rfl,hH,hblk⟩
  have S:SWK (fun x=>encC (p x)) 2 w blk off d w:=SWK.start hH
  go_enter Try.func112,Try.ntmps112
  go_wp2_with (first|(go_at_call 118;refine(stable.calls 2 agg141 size141 (fun x=>encC (p x)) (fun x=>(p x).w) (fun x y=>cfC (p x) (p y)) (fun x y=>cfC_lt (p x) (p y)) g #[] (by rcases hg with rfl|rfl;exact enter113;exact enter115) blk off cap d.size _ d d w _ rfl (lays p g hg blk off d.size w) R rfl rfl S hsz).mono ?_;rintro e w2 ⟨rfl,d2,e2,s2,S2⟩))
  go_end0
  obtain⟨cs,c1,c2,c3,c4⟩:=blkR_app (fun x=>(p x).w) 20 (d.size+1) [] d.toList 0 rfl (by rw[Array.length_toList];omega)
  rw[List.nil_append,List.nil_append]at c1
  rw[c1]at e2
  obtain⟨t1,t2⟩:=stabR_ok (fun x=>(p x).w) (d.size+1) cs 20 (by omega) c2 (by rw[c4,Array.length_toList];omega)
  exact⟨rfl,d2,by rw[e2];exact t1,by rw[e2];exact c3.trans t2,s2,S2⟩
end
section
open Go.Shelf Go.RowKit Go.Lib Go.Sort Go.Proofs.Ytldiiicbgdfapaa.SortMath
variable {α:Type} [Inhabited α]
theorem lt_of_get {α:Type} {a:Array α} {k:Nat} {x:α} (h:a[k]? = some x):k<a.size:=by
  by_cases c:k<a.size
  · exact c
  · rw[Array.getElem?_eq_none (by omega)]at h;cases h
theorem own_holds (p:α→Cn) {w:World} {base g n cap:Nat} {d:Array α} (h:w.ownsRow base 141 2 (.slice (some ⟨g,0,none⟩) n cap) n (flatK (fun x=>encC (p x)) 2 d).toList) (hd:d.size=n):HoldsK (fun x=>encC (p x)) 2 w g 0 d∧g<w.heap.size:=by
  obtain⟨h1,h2⟩:=h
  rcases h2 with ⟨h2,_⟩|⟨g',cap',cur,he,hb,hh,hc,hm,hs,ht⟩
  · cases h2
  · injection he with he1 he2 he3
    injection he1 with he1
    injection he1 with he1
    subst he1;subst he3
    refine⟨fun j hj=>?_,lt_of_get hh⟩
    rw[size_flatK]at hj
    have hjc:j<cur.size:=by
      have:=Nat.mul_le_mul_right 2 hc
      omega
    have e1:(flatK (fun x=>encC (p x)) 2 d)[j]! = cur[j]! := by
      have q:(flatK (fun x=>encC (p x)) 2 d).toList[j]? = cur.toList[j]? := by
        rw[← ht,List.getElem?_take,if_pos (by omega)]
      rw[Array.getElem?_toList,Array.getElem?_toList]at q
      rw[getElem!_def,getElem!_def,q]
    constructor
    · show w.cell? ⟨g,0+j,none⟩=some (flatK (fun x=>encC (p x)) 2 d)[j]!
      rw[e1,Nat.zero_add]
      unfold World.cell?
      rw[hh]
      simp[hjc]
    · unfold World.frozen?
      rw[hh]
      simp
theorem sortWorld_own (p:α→Cn) {w:World} {base g n cap q:Nat} {d d':Array α} {os:Array Obj} (h:w.ownsRow base 141 2 (.slice (some ⟨g,0,none⟩) n cap) n (flatK (fun x=>encC (p x)) 2 d).toList) (hd:d.size=n) (hd':d'.size=n) :
    (sortWorldK (fun x=>encC (p x)) 2 w g 0 q d' os).ownsRow base 141 2 (.slice (some ⟨g,0,none⟩) n cap) n (flatK (fun x=>encC (p x)) 2 d').toList∧w.grownBy (sortWorldK (fun x=>encC (p x)) 2 w g 0 q d' os) (some g):=by
  obtain⟨h1,h2⟩:=h
  rcases h2 with ⟨h2,_⟩|⟨g',cap',cur,he,hb,hh,hc,hm,hs,ht⟩
  · cases h2
  · injection he with he1 he2 he3
    injection he1 with he1
    injection he1 with he1
    subst he1;subst he3
    have hg:=lt_of_get hh
    have hw:∀ k,k<w.heap.size→(sortWorldK (fun x=>encC (p x)) 2 w g 0 q d' os).heap[k]? = (w.heap.modify g (onCells (putCells id 0 (flatK (fun x=>encC (p x)) 2 d'))))[k]? := by
      intro k hk
      unfold sortWorldK
      rw[Go.Sort.heap_grow_old _ _ (by rw[size_putRowK];exact hk)]
      rfl
    refine⟨⟨by rw[Array.length_toList,size_flatK,hd'],.inr ⟨g,cap,putCells id 0 (flatK (fun x=>encC (p x)) 2 d') cur,rfl,hb,?_,hc,hm,by simp[putCells,hs],?_⟩⟩,⟨rfl,rfl,rfl,?_,fun k hk hne=>?_⟩⟩
    · rw[hw g hg,Array.getElem?_modify,if_pos rfl,hh]
      rfl
    · apply List.ext_getElem?
      intro j
      rw[List.getElem?_take]
      by_cases c:j<n*2
      · have hjc:j<cur.size:=by
          have:=Nat.mul_le_mul_right 2 hc
          omega
        rw[if_pos c,Array.getElem?_toList,Array.getElem?_toList,putCells,Array.getElem?_mapIdx,Array.getElem?_eq_getElem hjc]
        simp[size_flatK,hd',c,getElem!_def]
      · rw[if_neg c,List.getElem?_eq_none (by rw[Array.length_toList,size_flatK,hd'];omega)]
    · unfold sortWorldK
      rw[size_grow,size_putRowK]
      exact Nat.le_add_right _ _
    · rw[hw k hk,Array.getElem?_modify,if_neg (fun e=>hne (by rw[e]))]
end
section
open Go.Shelf Go.RowKit Go.Lib Go.Sort Go.Proofs.Ytldiiicbgdfapaa.SortMath
variable {α:Type} [Inhabited α]
set_option maxHeartbeats 1000000 in
theorem insertion0.calls (g:Nat) (cb:Array Value) (w:World):Calls Try.prog 122 #[.slice none 0 0,.int .i64 0,.int .i64 0,.func (.func g) #[] cb] w fun e w'=>e = .returned (.tuple #[])∧w'=w:=by
  go_enter Try.func122,Try.ntmps122
  go_wp2
  go_loopg [8] 0 (fun kx s8 wr=>s8 = .int .i64 1∧wr=w)
  case atStart=>exact⟨by first|rfl|go_num,rfl⟩
  case round =>
    obtain⟨rfl,rfl⟩:=hrel
    go_wp2
    go_end0
    exact⟨rfl,rfl⟩
set_option maxHeartbeats 1000000 in
theorem stable0.calls (g:Nat) (cb:Array Value) (w:World):Calls Try.prog 118 #[.slice none 0 0,.int .i64 0,.func (.func g) #[] cb] w fun e w'=>e = .returned (.tuple #[])∧w'=w:=by
  go_enter Try.func118,Try.ntmps118
  go_wp2
  go_loopg [7,8] 0 (fun kx s7 s8 wr=>s7 = .int .i64 0∧s8 = .int .i64 20∧wr=w)
  case atStart=>exact⟨by first|rfl|go_num,by first|rfl|go_num,rfl⟩
  case round =>
    obtain⟨rfl,rfl,rfl⟩:=hrel
    go_wp2_with (first|(go_at_call 122;refine(insertion0.calls g cb _).mono ?_;rintro e' w2 ⟨rfl,rfl⟩))
    go_loopg [6] 0 (fun kx s6 wr2=>s6 = .int .i64 20∧wr2=w2)
    case atStart=>exact⟨by first|rfl|go_num,rfl⟩
    case round =>
      obtain⟨rfl,rfl⟩:=hrel
      go_wp2
      go_end0
      exact⟨rfl,rfl⟩
theorem sortStable_own (p:α→Cn) (g:Nat) (hg:g=113∨g=115) (base n:Nat) (v:Value) (d:Array α) (w:World) (h:w.ownsRow base 141 2 v n (flatK (fun x=>encC (p x)) 2 d).toList) (hd:d.size=n) (hsz:n<1152921504606846976) :
    Calls Try.prog 112 #[v,.func (.func g) #[] #[]] w fun e w'=>e = .returned (.tuple #[])∧∃ d':Array α,Srt (fun x=>(p x).w) d'.toList∧Same (fun x=>(p x).w) d.toList d'.toList∧d'.size=n∧w'.ownsRow base 141 2 v n (flatK (fun x=>encC (p x)) 2 d').toList∧w.grownBy w' v.ownBlock:=by
  have h0:=h
  obtain⟨h1,h2⟩:=h
  rcases h2 with ⟨rfl,rfl⟩|⟨g',cap',cur,rfl,hb,hh,hc,hm,hs,ht⟩
  · obtain rfl:d = #[]:=Array.eq_empty_of_size_eq_zero hd
    go_enter Try.func112,Try.ntmps112
    go_wp2_with (first|(go_at_call 118;refine(stable0.calls g #[] _).mono ?_;rintro e' w2 ⟨rfl,rfl⟩))
    go_end0
    exact⟨rfl,#[],by simp[Srt],Same.refl _ _,rfl,h0,⟨rfl,rfl,rfl,Nat.le_refl _,fun _ _ _=>rfl⟩⟩
  · obtain⟨hH,hblk⟩:=own_holds p h0 hd
    subst hd
    refine(sortStable.calls p g hg g' 0 cap' d w hH hblk hsz).mono ?_
    rintro e w' ⟨rfl,d',s1,s2,s3,q,os,rfl⟩
    obtain⟨o1,o2⟩:=sortWorld_own p (q:=q) (os:=os) h0 rfl s3
    exact⟨rfl,d',s1,s2,s3,o1,o2⟩
end
section
open Go.Shelf Go.RowKit Go.Lib Go.Sort Go.Proofs.Ytldiiicbgdfapaa.SortMath
variable {α:Type} [Inhabited α]
theorem flat_at (p:α→Cn) (d:Array α) (j:Nat) (hj:j<d.size):(((flatK (fun x=>encC (p x)) 2 d).toList.drop (j*2)).take 2)=encC (p d[j]!):=by
  have e:∀ r,r<2→(flatK (fun x=>encC (p x)) 2 d).toList[j*2+r]? = (encC (p d[j]!))[r]? := by
    intro r hr
    have q:=get_flatK (fun x=>encC (p x)) 2 d (j*2+r) (by omega)
    rw[Array.getElem?_toList,Array.getElem?_eq_getElem (by rw[size_flatK];omega)]
    rw[getElem!_pos _ (j*2+r) (by rw[size_flatK];omega)]at q
    rw[q,show(j*2+r) / 2=j from by omega,show(j*2+r) % 2=r from by omega]
    have l:(encC (p d[j]!)).length=2:=rfl
    rw[getElem!_pos _ r (by omega),List.getElem?_eq_getElem (by omega)]
  apply List.ext_getElem?
  intro r
  rw[List.getElem?_take,List.getElem?_drop]
  by_cases c:r<2
  · rw[if_pos c,e r c]
  · rw[if_neg c,List.getElem?_eq_none (by show 2≤r;omega)]
def dec:List Value→Cn
  | [.int _ w,.slice A n c]=>⟨w,A,n,c⟩
  | _=>default
end
section
open Go.Shelf Go.RowKit Go.Lib Go.Sort Go.Proofs.Ytldiiicbgdfapaa.SortMath
variable {α:Type} [Inhabited α]
section
open Go.Proofs.YtldiiicbgdfapaaW.PrintWords
theorem sortStable_N {β:Type} [Inhabited β] (dk:Kd β) (wt:β→Int) (hs2:dk.sz=2) (hop:∀ (W:World) (ok:Nat→Prop) (x:β) (c:List Value),Kd.FK dk W ok x c→∃ A n cc,c=[.int .i64 (wt x),.slice A n cc])
    (g:Nat) (hg:g=113∨g=115) (w:World) (base:Nat) (ok:Nat→Prop) (v:Value) (xs:List β) (h:Kd.N dk 141 w base ok v xs) (hlen:xs.length<1152921504606846976) :
    Calls Try.prog 112 #[v,.func (.func g) #[] #[]] w fun e w'=>e = .returned (.tuple #[])∧∃ ys:List β,Srt wt ys∧Same wt xs ys∧ys.length=xs.length∧Kd.N dk 141 w' base ok v ys∧w.grownBy w' v.ownBlock:=by
  obtain⟨h0,rows,hl,hR,hF⟩:=h
  rw[hs2]at hR
  obtain⟨hR0,inner,ho,hr⟩:=hR
  obtain⟨hr1,hr2⟩:=hr
  change inner.length=rows.length*2 at hr1
  have hrow:∀ j (hj:j<rows.length),rows[j]=encC (dec rows[j])∧(dec rows[j]).w=wt (xs[j]'(by omega))∧Kd.FK dk w (fun k=>ok k∧some k≠v.ownBlock) (xs[j]'(by omega)) rows[j]:=by
    intro j hj
    have f:=hF j _ _ (List.getElem?_eq_getElem (by omega)) (List.getElem?_eq_getElem hj)
    obtain⟨A,n,cc,ec⟩:=hop _ _ _ _ f
    exact⟨by rw[ec];rfl,by rw[ec];rfl,f⟩
  obtain⟨ds,hds⟩:∃ ds:Array (β×Cn),ds=(xs.zip (rows.map dec)).toArray:=⟨_,rfl⟩
  have hsz:ds.size=rows.length:=by rw[hds];simp[hl]
  have hat:∀ j (hj:j<ds.size),ds[j]=(xs[j]'(by omega),dec (rows[j]'(by omega))):=by
    intro j hj;subst hds;simp
  have hin:(flatK (fun x:β×Cn=>encC x.2) 2 ds).toList=inner:=by
    apply List.ext_getElem?
    intro t
    by_cases c:t<rows.length*2
    · have e1:=flat_at (fun x:β×Cn=>x.2) ds (t / 2) (by omega)
      have e2:=(hr2 (t / 2) _ (List.getElem?_eq_getElem (by omega))).1
      change (inner.drop (t / 2*2)).take 2=_ at e2
      have e3:encC (ds[t / 2]!).2=rows[t / 2]'(by omega):=by
        rw[getElem!_pos ds (t / 2) (by omega),hat (t / 2) (by omega)]
        exact(hrow (t / 2) (by omega)).1.symm
      have q:((flatK (fun x:β×Cn=>encC x.2) 2 ds).toList.drop (t / 2*2)).take 2=(inner.drop (t / 2*2)).take 2:=by rw[e1,e2,e3]
      have q2:=congrArg (fun l=>l[t % 2]?) q
      simp only[List.getElem?_take,List.getElem?_drop]at q2
      rw[if_pos (by omega),if_pos (by omega),show t / 2*2+t % 2=t from by omega]at q2
      exact q2
    · rw[List.getElem?_eq_none (by rw[Array.length_toList,size_flatK];omega),List.getElem?_eq_none (by omega)]
  rw[← hin]at ho
  refine(sortStable_own (fun x:β×Cn=>x.2) g hg base rows.length v ds w ho hsz (by omega)).mono ?_
  rintro e w' ⟨rfl,d',s1,s2,s3,o1,o2⟩
  have hmem:∀ p∈d'.toList,p.2.w=wt p.1∧Kd.FK dk w (fun k=>ok k∧some k≠v.ownBlock) p.1 (encC p.2):=by
    intro p hp
    have hp:=s2.symm.mem hp
    obtain⟨j,hj,rfl⟩:=List.getElem_of_mem hp
    rw[Array.length_toList]at hj
    rw[Array.getElem_toList,hat j hj]
    obtain⟨r1,r2,r3⟩:=hrow j (by omega)
    exact⟨r2,by rw[← r1];exact r3⟩
  have hxs:xs=ds.toList.map Prod.fst:=by
    rw[hds];simp only[List.toList_toArray]
    rw[List.map_fst_zip (by simp[hl])]
  have hmem0:∀ p∈ds.toList,p.2.w=wt p.1:=fun p hp=>(hmem p (s2.mem hp)).1
  refine⟨rfl,d'.toList.map Prod.fst,?_,?_,by simp[s3,hl],⟨h0,d'.toList.map (fun p=>encC p.2),by simp,?_,?_⟩,o2⟩
  · unfold Srt
    rw[List.pairwise_map]
    exact s1.imp_of_mem fun {a b} ha hb hab=>by rw[← (hmem a ha).1,← (hmem b hb).1];exact hab
  · intro z
    rw[hxs,List.filter_map,List.filter_map]
    have q:=s2 z
    congr 1
    have f1:ds.toList.filter ((fun a=>decide (wt a=z)) ∘ Prod.fst)=ds.toList.filter (fun a=>decide (a.2.w=z)):=List.filter_congr fun p hp=>by simp only[Function.comp];rw[hmem0 p hp]
    have f2:d'.toList.filter ((fun a=>decide (wt a=z)) ∘ Prod.fst)=d'.toList.filter (fun a=>decide (a.2.w=z)):=List.filter_congr fun p hp=>by simp only[Function.comp];rw[(hmem p hp).1]
    rw[f1,f2]
    exact q
  · rw[hs2]
    refine⟨hR0,(flatK (fun x:β×Cn=>encC x.2) 2 d').toList,by(show w'.ownsRow base 141 2 v _ _);rw[List.length_map,Array.length_toList,s3];exact o1,?_,fun j p hj=>?_⟩
    · show _=_*2
      rw[Array.length_toList,size_flatK];simp
    · rw[List.getElem?_map]at hj
      cases hq:d'.toList[j]? with
      | none=>rw[hq]at hj;cases hj
      | some q =>
        rw[hq]at hj
        injection hj with hj
        obtain⟨hjl,hjq⟩:=List.getElem?_eq_some_iff.1 hq
        rw[Array.length_toList]at hjl
        have e1:=flat_at (fun x:β×Cn=>x.2) d' j hjl
        rw[getElem!_pos d' j hjl]at e1
        rw[Array.getElem_toList]at hjq
        subst hj
        have e2:(List.take (Kd.raw 2).sz (List.drop (j*(Kd.raw 2).sz) (flatK (fun x:β×Cn=>encC x.2) 2 d').toList))=encC q.2:=by rw[← hjq];exact e1
        rw[e2]
        refine⟨rfl,rfl,?_⟩
        intro u hu
        simp only[encC,List.mem_cons,List.not_mem_nil,or_false]at hu
        rcases hu with rfl|rfl <;> rfl
  · intro j x c hx hc
    rw[List.getElem?_map]at hx hc
    cases hq:d'.toList[j]? with
    | none=>rw[hq]at hx;cases hx
    | some q =>
      rw[hq]at hx hc
      injection hx with hx
      injection hc with hc
      subst hx;subst hc
      have hp:q∈d'.toList:=List.mem_of_getElem? hq
      exact Kd.FK_step (hmem q hp).2 fun k hk hlt=>o2.block k hlt hk.2
end
end
section
open Go.Shelf Go.RowKit Go.Lib Go.Sort Go.Proofs.Ytldiiicbgdfapaa.SortMath
variable {α:Type} [Inhabited α]
def ins {β:Type} (f:β→Int) (x:β):List β→List β
  | []=>[x]
  | y :: ys=>if f x≤f y then x :: y :: ys else y :: ins f x ys
def isort {β:Type} (f:β→Int):List β→List β
  | []=>[]
  | x :: xs=>ins f x (isort f xs)
theorem ins_ok {β:Type} (f:β→Int) (x:β) (ys:List β):Srt f ys→Srt f (ins f x ys)∧Same f (x :: ys) (ins f x ys):=by
  induction ys with
  | nil=>intro _;exact⟨by simp[ins,Srt],Same.refl _ _⟩
  | cons y ys ih =>
    intro h
    rw[ins]
    obtain⟨h1,h2⟩:=List.pairwise_cons.mp h
    by_cases c:f x≤f y
    · rw[if_pos c]
      refine⟨List.pairwise_cons.mpr ⟨fun b hb=>?_,h⟩,Same.refl _ _⟩
      rcases List.mem_cons.mp hb with rfl|hb
      · exact c
      · have:=h1 b hb;omega
    · rw[if_neg c]
      obtain⟨s,m⟩:=ih h2
      refine⟨List.pairwise_cons.mpr ⟨fun b hb=>?_,s⟩,?_⟩
      · rcases List.mem_cons.mp (m.symm.mem hb)with rfl|hb
        · omega
        · exact h1 b hb
      · have e1:Same f ([x]++[y]) ([y]++[x]):=Same.swap fun a ha b hb=>by
          simp only[List.mem_singleton]at ha hb;subst ha;subst hb;omega
        have:=(e1.app (Same.refl f ys)).trans ((Same.refl f [y]).app m)
        simpa using this
theorem isort_ok {β:Type} (f:β→Int) (xs:List β):Srt f (isort f xs)∧Same f xs (isort f xs):=by
  induction xs with
  | nil=>exact⟨by simp[isort,Srt],Same.refl _ _⟩
  | cons x xs ih =>
    obtain⟨s,m⟩:=ins_ok f x (isort f xs) ih.1
    exact⟨s,((Same.refl f [x]).app ih.2).trans m⟩
theorem isort_uniq {β:Type} {f:β→Int} {xs ys:List β} (h1:Srt f ys) (h2:Same f xs ys):ys=isort f xs :=
  Srt.uniq _ _ h1 (isort_ok f xs).1 (h2.symm.trans (isort_ok f xs).2)
section
open Go.Proofs.YtldiiicbgdfapaaW.PrintWords
theorem sortStable_P {β:Type} [Inhabited β] (dk:Kd β) (wt:β→Int) (hs2:dk.sz=2) (hop:∀ (W:World) (ok:Nat→Prop) (x:β) (c:List Value),Kd.FK dk W ok x c→∃ A n cc,c=[.int .i64 (wt x),.slice A n cc])
    (g:Nat) (hg:g=113∨g=115) (P0_:Nat→Prop) (u:Value) (l0:List β) (w0 w:World) (hB:Below w0.heap.size w0 w) (ho0:Kd.N dk 141 w w0.heap.size P0_ u l0) (hl:l0.length<1152921504606846976) :
    Calls Try.prog 112 #[u,.func (.func g) #[] #[]] w fun e w'=>e = .returned (.tuple #[])∧Kd.N dk 141 w' w0.heap.size P0_ u (isort wt l0)∧Below w0.heap.size w0 w'∧w.grownBy w' u.ownBlock:=by
  refine(sortStable_N dk wt hs2 hop g hg w w0.heap.size P0_ u l0 ho0 hl).mono ?_
  rintro e w' ⟨rfl,ys,s1,s2,s3,hN,hg⟩
  obtain rfl:=isort_uniq s1 s2
  exact⟨rfl,hN,hB.grown hg hB.size (fun k hk=>Kd.N_base ho0 k hk),hg⟩
end
end
end Go.Proofs.Ytldiiicbgdfapaa.SortHand
