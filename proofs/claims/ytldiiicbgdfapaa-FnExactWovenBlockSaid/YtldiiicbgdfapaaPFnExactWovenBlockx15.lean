/- Walks of functions that the law reaches: each call comes to what the Lean function of its name tells. -/
import Derived.Test.YtldiiicbgdfapaaSortHand13
import Derived.Test.YtldiiicbgdfapaaPFnExactWovenBlockx14
namespace Go.Proofs.Ytldiiicbgdfapaa.PFnExactWovenBlock
open Go.RowKit Go.Proofs.YtldiiicbgdfapaaW.PrintWords Go.Proofs.YtldiiicbgdfapaaW.PrintLast Go.Proofs.YtldiiicbgdfapaaW.PrintMore
attribute [local go_sem] max2_int min2_int max_two min_two max_three min_three max_four min_four
set_option linter.unusedVariables false
set_option maxHeartbeats 8000000
set_option maxRecDepth 100000
set_option linter.unusedSimpArgs false
def impl_DistCode.l0:Nat→Int→Int→Int→Int→Option (Int×Int×Int)
  | 0,_,_,_,_=>none
  | k+1,x0,x5,x6,x7=>if x6>x0 then((impl_distSpan.f (wrap64 (x5-1))).bind fun bt577=>(impl_DistCode.l0 k x0 (wrap64 (x5-1)) bt577.1 bt577.2))else(some (x5,x7,wrap64 (x0-x6)))
def impl_DistCode.f (k:Nat) (a0:Int):Option (Int×Int×Int):=(impl_within.f a0 1 32768).bind fun ao=>(if ao=true then((impl_distSpan.f 29).bind fun af=>(impl_DistCode.l0 k a0 29 af.1 af.2))else(some (0,0,0)))
theorem impl_DistCode.calls (k:Nat) (a0:Int) (r1:Int) (r2:Int) (r3:Int) (w:World) (h:impl_DistCode.f k a0=some (r1,r2,r3)) :
 Calls Try.prog 70 #[.int .i64 a0] w fun e w'=>e = .returned (.tuple #[.int .i64 r1,.int .i64 r2,.int .i64 r3])∧Drawn0 w w':=by
 have H:((impl_within.f a0 1 32768).bind fun ao=>(if ao=true then((impl_distSpan.f 29).bind fun af=>(impl_DistCode.l0 k a0 29 af.1 af.2))else(some (0,0,0))))=some (r1,r2,r3):=h;clear h;revert H;refine bdR fun ao A2=>?_
 refine bB (fun c3=>?_) (fun c3=>?_)
 · intro H;subst c3;revert H;refine bdR fun⟨ax,ay⟩ A4=>?_;intro H
   try dsimp only at H
   revert H;refine adR fun H'=>?_;go_enter Try.func70,Try.ntmps70
   go_wp2_with (first|(refine gL (some 9) Try.func72 #[.int .i64 a0,.int .i64 1,.int .i64 32768] ?_;(with_reducible refine(impl_within.calls a0 1 32768 true _ A2.out).mono ?_);rintro e w' ⟨rfl,⟨nd,rfl⟩⟩;refine⟨_,rfl,?_⟩)|(refine gL (some 13) Try.func98 #[.int .i64 29] ?_;(with_reducible refine(impl_distSpan.calls 29 ax ay _ A4.out).mono ?_);rintro e w' ⟨rfl,⟨nd,rfl⟩⟩;refine⟨_,rfl,?_⟩))
   go_loopg [5,6,7] k (fun kq v5 v6 v7 w' => ∃ (aj:Int) (au:Int) (av:Int),v5 = .int .i64 aj∧v6 = .int .i64 au∧v7 = .int .i64 av∧Aside0 (impl_DistCode.l0 kq a0 aj au av=some (r1,r2,r3))∧Aside0 (kq≤k)∧Drawn0 w w')
   case atStart=>exact⟨(29),(ax),(ay),eQ,eQ,eQ,H',⟨zI _⟩,dQ⟩
   case round =>
    clear H';(try clear p2);(try clear c3);obtain⟨aj,au,av,rfl,rfl,rfl,HA,HK1,⟨m1,rfl⟩⟩:=hrel;rcases gk with _|k1
    · exact absurd HA.out (by simp[impl_DistCode.l0])
    revert HA;refine aoR ?_;intro H;simp only[impl_DistCode.l0]at H;revert H
    refine iB (fun az=>?_) (fun az=>?_)
    · refine bdR fun⟨aA,aC⟩ A6=>?_;intro H
      try dsimp only at H
      revert H;refine adR fun H'=>?_
      go_wp2_with (first|(refine gL (some 23) Try.func98 #[.int .i64 (wrap64 (aj-1))] ?_;(with_reducible refine(impl_distSpan.calls (wrap64 (aj-1)) aA aC _ A6.out).mono ?_);rintro e w' ⟨rfl,⟨nd,rfl⟩⟩;refine⟨_,rfl,?_⟩));go_roundg k1
      case measure=>have:=HK1.out;omega
      case rel=>exact⟨(wrap64 (aj-1)),(aA),(aC),eQ,eQ,eQ,H',⟨by have:=HK1.out;omega⟩,dQ⟩
    · intro H;simp only[zL,zM]at H;obtain⟨rfl,rfl,rfl⟩:=H;go_wp2
      go_ret3;exact⟨eQ,dQ⟩
 · intro H;subst c3;simp only[zL,zM]at H;obtain⟨rfl,rfl,rfl⟩:=H;go_enter Try.func70,Try.ntmps70
   go_wp2_with (first|(refine gL (some 9) Try.func72 #[.int .i64 a0,.int .i64 1,.int .i64 32768] ?_;(with_reducible refine(impl_within.calls a0 1 32768 false _ A2.out).mono ?_);rintro e w' ⟨rfl,⟨nd,rfl⟩⟩;refine⟨_,rfl,?_⟩))
   go_ret3;exact⟨eQ,dQ⟩
def impl_coin.f (l0:List S141) (_:Unit):Option (List S141):=if l0.length<1152921504606846976 then some (Go.Proofs.Ytldiiicbgdfapaa.SortHand.isort S141.f0 l0)else none
theorem impl_coin.calls_ (g:Nat) (hg:g=113∨g=115) (P0_:Nat→Prop) (u:Value) (l0:List S141) (r:List S141) (w0 w:World) (hB:Below w0.heap.size w0 w) (ho0:Kd.N k141 141 w w0.heap.size P0_ u l0) (h:impl_coin.f l0 ()=some r) :
    Calls Try.prog 112 #[u,.func (.func g) #[] #[]] w fun e w'=>e = .returned (.tuple #[])∧Kd.N k141 141 w' w0.heap.size P0_ u r∧Below w0.heap.size w0 w'∧w.grownBy w' u.ownBlock:=by
  have:Inhabited S141:=⟨z141⟩
  unfold impl_coin.f at h
  by_cases hl:l0.length<1152921504606846976
  · rw[if_pos hl]at h
    obtain rfl:=zC h
    exact Go.Proofs.Ytldiiicbgdfapaa.SortHand.sortStable_P k141 S141.f0 rfl (fun W ok x c hc=>by obtain⟨A1,c1,e,_⟩:=k141_openF hc;exact⟨A1,_,c1,e⟩) g hg P0_ u l0 w0 w hB ho0 hl
  · rw[if_neg hl]at h;cases h
def impl_coinsOf.l0:Nat→List (S141)→List Int→Int→Int→Option ((List (S141)))
  | 0,_,_,_,_=>none
  | k+1,x3,x7,x8,x9=>if x9<x8 then(if 0≤x9 then(if x9<(x7.length:Int)then(if(rd x7 x9)>0 then(if x3.length<4398046511104 then(impl_coinsOf.l0 k (x3++[(⟨rd x7 x9,(([x9]:List Int))⟩:S141)]) x7 x8 (wrap64 (x9+1)))else(none))else(impl_coinsOf.l0 k x3 x7 x8 (wrap64 (x9+1))))else(none))else(none))else((impl_coin.f x3 ()).bind fun t589=>(some t589))
def impl_coinsOf.f (k:Nat) (l0:List Int):Option ((List (S141))):=impl_coinsOf.l0 k (([]:List (S141))) l0 (l0.length:Int) 0
theorem impl_coinsOf.calls (k:Nat) (A0:Option Addr) (c0:Nat) (l0:List Int) (r:List (S141)) (w:World) (hr0:Kd.C (Kd.int .i64) w A0 l0.length l0) (hc0:l0.length≤c0) (h:impl_coinsOf.f k l0=some r) :
 Calls Try.prog 99 #[.slice A0 l0.length c0] w fun e w' => ∃ v0_:Value,e = .returned (v0_)∧Kd.N k141 141 w' w.heap.size (fun k_=>(w.heap.size≤k_)) v0_ r∧Below w.heap.size w w':=by
 have hu141:=Try.underlying141;have HR0:=aM hr0;have HC0:=aM hc0;clear hr0 hc0;have HB:=aM (zQ w.heap.size w);have H:(impl_coinsOf.l0 k (([]:List (S141))) l0 (l0.length:Int) 0)=some r:=h;clear h;obtain⟨aD,hy_⟩:∃ y_:List (S141),y_=(([]:List (S141))):=⟨_,rfl⟩;replace H:(impl_coinsOf.l0 k aD l0 (l0.length:Int) 0)=some r:=nH;have aq:=aM hy_;clear hy_;revert H;refine adR fun H'=>?_;go_enter Try.func99,Try.ntmps99
 go_wp2_with (first|((with_reducible refine gD 6 ?_);refine Kd.N_lit k141 _ 141 ?hg (N':=6) ?hd (xs:=([]:List (S141))) (inner:=[]) (ok:=(fun k_=>(w.heap.size≤k_))) (okp:=(fun k_=>(w.heap.size≤k_))) ?hr ?hp (fun _ hk=>hk) ((show ∀ k_,w.heap.size≤k_→(fun k_=>(w.heap.size≤k_)) k_ from fun k_ hk=>(za (zD hB) hk)) _ (zI _)) (zQ _ _) (zI _) (by simp) ?_;(case hd=>rfl);(case hg=>rfl);(case hr=>first|(go_simp;done)|(go_simp;rfl));(case hp=>exact(Reps.none _ _));intro bb w2 ho3 hb hg_ hnew_;clear hg_ hnew_;(first|rw[← aq.out]at ho3|(simp only[Int.reduceToNat]at ho3;rw[← aq.out]at ho3));have aG:=aM (z3 ho3 (zD hB));replace HB:=hS hb;clear hb ho3))
 go_loopg [3,9] k (fun kq v3 v9 w' => ∃ (ac:List (S141)) (aa:Int),v9 = .int .i64 aa∧Aside0 (impl_coinsOf.l0 kq ac l0 (l0.length:Int) aa=some r)∧Aside0 (kq≤k)∧Aside0 (Kd.N k141 141 w' w.heap.size (fun k_=>(w.heap.size≤k_)) v3 ac)∧Aside0 (Below w.heap.size w w'))
 case atStart=>exact⟨(aD),(0),eQ,H',⟨zI _⟩,⟨zc aG.out⟩,⟨hB⟩⟩
 case round =>
  clear H';(try clear p2);obtain⟨ac,aa,rfl,HA,HK1,ae,HB⟩:=hrel;rcases gk with _|k1
  · exact absurd HA.out (by simp[impl_coinsOf.l0])
  revert HA;refine aoR ?_;intro H;simp only[impl_coinsOf.l0]at H;revert H
  refine iB (fun aH=>?_) (fun aH=>?_)
  · refine iR fun az=>?_;refine iR fun be=>?_;intro H;revert H
    refine iB (fun aU=>?_) (fun aU=>?_)
    · intro H;obtain⟨an,hy_⟩:∃ y_:List Int,y_=(([aa]:List Int)):=⟨_,rfl⟩;replace H:(if ac.length<4398046511104 then(impl_coinsOf.l0 k1 (ac++[(⟨rd l0 aa,an⟩:S141)]) l0 (l0.length:Int) (wrap64 (aa+1)))else(none))=some r:=nH;have ar:=aM hy_;clear hy_;revert H;refine ifR fun c8=>?_;intro H;have aV:=aM c8;clear c8;obtain⟨aI,hy_⟩:∃ y_:List (S141),y_=(ac++[(⟨rd l0 aa,an⟩:S141)]):=⟨_,rfl⟩;replace H:(impl_coinsOf.l0 k1 aI l0 (l0.length:Int) (wrap64 (aa+1)))=some r:=nH;have aJ:=aM hy_;clear hy_;revert H;refine adR fun H'=>?_;have ag:0≤(aa:Int):=bD;have ah:aa<(l0.length:Int):=bD;obtain⟨aK,aw,ab⟩:=zV HR0.out aa ag ah;cases aw;replace ab:=cB0 HB ab;replace ag:=zB ag;replace ah:=zB ah
      go_wp2_with (first|((with_reducible refine gD 19 ?_);refine Kd.R_lit (Kd.int .i64) _ 3 ?hg (N:=19) ?hd (xs:=([aa]:List Int)) (inner:=[.int .i64 aa]) (ok:=fun _=>True) (okp:=fun _=>True) ?hr ?hp (fun _ hk=>hk) trivial (zQ _ _) (zI _) (by simp) ?_;(case hd=>rfl);(case hg=>rfl);(case hr=>first|(go_simp;done)|(go_simp;rfl));(case hp=>exact(Reps.one (show Kd.M (Kd.int .i64) _ _ _ aa [.int .i64 aa]from rfl) (Reps.none _ _)));intro bf w9 ak hb hg_ hnew_;clear hg_ hnew_;(first|rw[← ar.out]at ak|(simp only[Int.reduceToNat]at ak;rw[← ar.out]at ak));replace ae:=aM (z2 (zc ae.out) (ze ak) hb);have ai:=aM (zb (Kd.R_newM (M:=fun k_=>(w.heap.size≤k_)) ak (zD hB) (fun k_ h_=>h_)) (zD hB));replace HB:=hS hb;clear hb ak;obtain⟨aW,aX,aY⟩:=zY ai.out;subst aY)|((with_reducible refine gate_builtin (b:=.append) (xs:=#[.tmp 16,.tmp 21]) rfl ?_);at_builtin;refine Kd.N_append k141 (w0:=w) w.heap.size rfl (.tmp 16) (.tmp 21) 138 141 (.agg #[(.int .i64 0),(.slice none 0 0)]) 32 rfl Try.underlying138 info141 rfl (by decide) (by omega) u3 ac (⟨rd l0 aa,an⟩:S141) [.int .i64 (rd l0 aa),.slice aW an.length aX] (fun k_=>(w.heap.size≤k_)) (fun k_=>((fun k_=>(w.heap.size≤k_))) k_∧some k_≠(u3:Value).ownBlock) rfl rfl ?aP (fun _ hk=>hk) ?aF ?aO ?aB ?aS ?aL ?_;(case aP=>exact(k141_mkF _ _ (⟨rd l0 aa,an⟩:S141) (zJ (zH (ok':=(fun k_=>((fun k_=>(w.heap.size≤k_))) k_∧some k_≠(u3:Value).ownBlock)) (ZB (ai.out) (Kd.N_typed ae.out) (by decide)) (fun k_ hk=>⟨hk.1.1,hk.2⟩))).2.1 (Kd.R_F (zH (ok':=(fun k_=>((fun k_=>(w.heap.size≤k_))) k_∧some k_≠(u3:Value).ownBlock)) (ZB (ai.out) (Kd.N_typed ae.out) (by decide)) (fun k_ hk=>⟨hk.1.1,hk.2⟩)))));(case aB=>exact hB);(case aF=>exact(fun k_ hk=>(za (zD hB) hk)));(case aO=>exact(zc (zr ae.out (fun _ hk=>hk.1))));(case aS=>exact(zD hB));(case aL=>have:=aV.out;omega);intro bg w12 ho hb hg hat;rw[← aJ.out]at ho;replace HB:=aM hb;have aN:=aM ho;clear ae ai;clear ho hb hg hat));go_roundg k1
      case measure=>have:=HK1.out;omega
      case rel=>exact⟨(aI),(wrap64 (aa+1)),eQ,H',⟨by have:=HK1.out;omega⟩,⟨zc aN.out⟩,⟨hB⟩⟩
    · refine adR fun H'=>?_;have ag:0≤(aa:Int):=bD;have ah:aa<(l0.length:Int):=bD;obtain⟨aK,aw,ab⟩:=zV HR0.out aa ag ah;cases aw;replace ab:=cB0 HB ab;replace ag:=zB ag;replace ah:=zB ah;go_wp2;go_roundg k1
      case measure=>have:=HK1.out;omega
      case rel=>exact⟨(ac),(wrap64 (aa+1)),eQ,H',⟨by have:=HK1.out;omega⟩,⟨zc ae.out⟩,⟨hB⟩⟩
  · refine bdR fun t589 A13=>?_;intro H;obtain rfl:=zC H;obtain⟨aQ,aT,aZ⟩:=Kd.N_slice ae.out;subst aZ
    go_wp2_with (first|(refine gL (some 25) Try.func112 #[.slice aQ ac.length aT,.func (.func 113) #[] #[]] ?_;(with_reducible refine(impl_coin.calls_ 113 (by decide) (fun k_=>(w.heap.size≤k_)) (.slice aQ ac.length aT) ac t589 w _ ?s1 ?s2 A13.out).mono ?_);(case s1=>exact hB);(case s2=>(with_reducible repeat (first|apply Kd.N_alloc|apply Kd.N_drewN|apply Kd.N_drew));exact ae.out);rintro e w15 ⟨rfl,hy0,hb,hkp⟩;refine⟨_,rfl,?_⟩;replace ae:=aM hy0;replace HB:=aM hb;clear hb;(try clear hkp);(try clear hy0)));go_ret;exact⟨_,eE,zc ae.out,hB⟩
def impl_powerOf.f (a0:Int):Option (Int):=(impl_within.f a0 0 62).bind fun ap=>(if ap=true then(if 0≤a0 then(some (shl .i64 1 a0))else(none))else(some 0))
theorem impl_powerOf.calls (a0:Int) (r:Int) (w:World) (h:impl_powerOf.f a0=some r) :
 Calls Try.prog 100 #[.int .i64 a0] w fun e w'=>e = .returned (.int .i64 r)∧Drawn0 w w':=by
 have H:((impl_within.f a0 0 62).bind fun ap=>(if ap=true then(if 0≤a0 then(some (shl .i64 1 a0))else(none))else(some 0)))=some r:=h;clear h;revert H;refine bdR fun ap A2=>?_
 refine bB (fun c3=>?_) (fun c3=>?_)
 · intro H;subst c3;revert H;refine ifR fun c4=>?_;intro H;have aH:=zB c4;have bh:=zN c4;clear c4;obtain⟨ji5,am⟩:∃ j_:Int,(shl .i64 1 a0)=j_:=⟨_,rfl⟩;replace H:(some ji5)=some r:=by first|(rw[am]at H;exact H)|(simp only[am]at H ⊢;exact H)
   (try rw[am]at A2);have hji5_:(IntKind.i64.wrap (1*2 ^ min a0.toNat 64))=ji5:=am;have hji5z:a0≤64→(IntKind.i64.wrap (1*2 ^ a0.toNat))=ji5:=shl_small am;have hji5u:(IntKind.i64.wrap (2 ^ min a0.toNat 64))=ji5:=by have h_:=hji5_;rw[Int.one_mul]at h_;exact h_
   have hji5v:a0≤64→(IntKind.i64.wrap (2 ^ a0.toNat))=ji5:=fun hle_=>by have h_:=hji5z hle_;rw[Int.one_mul]at h_;exact h_
   have hji5y:(wrap64 (1*2 ^ min a0.toNat 64))=ji5:=(i64_w _).symm.trans hji5_;have hji5x:a0≤64→(wrap64 (1*2 ^ a0.toNat))=ji5:=fun h_=>(i64_w _).symm.trans (hji5z h_)
   obtain rfl:=zC H;go_enter Try.func100,Try.ntmps100
   go_wp2_with (first|(refine gL (some 4) Try.func72 #[.int .i64 a0,.int .i64 0,.int .i64 62] ?_;(with_reducible refine(impl_within.calls a0 0 62 true _ A2.out).mono ?_);rintro e w' ⟨rfl,⟨nd,rfl⟩⟩;refine⟨_,rfl,?_⟩));go_ret;exact⟨by first|rfl|(simp;done)|(simp only[← am] <;> (first|rfl|simp))|(simp[*];done),dQ⟩
 · intro H;subst c3;obtain rfl:=zC H;go_enter Try.func100,Try.ntmps100
   go_wp2_with (first|(refine gL (some 4) Try.func72 #[.int .i64 a0,.int .i64 0,.int .i64 62] ?_;(with_reducible refine(impl_within.calls a0 0 62 false _ A2.out).mono ?_);rintro e w' ⟨rfl,⟨nd,rfl⟩⟩;refine⟨_,rfl,?_⟩));go_ret;exact⟨eQ,dQ⟩
theorem slices_Grow_int.calls (n:Nat) (w:World) (hn:n≤1000000000):Calls Try.prog 76 #[.slice none 0 0,.int .i64 (n:Int)] w fun e w' => ∃ v:Value,e = .returned v∧Kd.R (Kd.int .i64) 3 w' w.heap.size (fun _=>True) v ([]:List Int)∧Below w.heap.size w w':=by
 have HN:=aM hn;clear hn
 by_cases h0:n=0
 · subst h0;go_enter Try.func76,Try.ntmps76;go_wp2;go_ret;exact⟨_,rfl,Kd.R_nil _ _ _ _ _,zQ _ _⟩
 · have hp:decide ((0:Int)<(n:Int))=true:=zN (by omega);have hp2:decide (0<n)=true:=zN (by omega);have hw:=show wrap64 ((n:Int))=(n:Int)by have:=HN.out;unfold wrap64;omega
   have HW:=aM hw;clear h0 hw;go_enter Try.func76,Try.ntmps76
   go_wp2_with (first|((with_reducible refine gate_builtin (b:=.append) (xs:=#[.tmp 20,.tmp 21]) rfl ?_);at_builtin;refine Kd.R_append_zeros (Kd.int .i64) (w0:=w) w.heap.size rfl (.tmp 20) (.tmp 21) 45 3 3 (.int .i64 0) 8 rfl Try.underlying45 Try.underlying3 info3 rfl (by decide) (by omega) (.slice none 0 0) ([]:List Int) (0:Int) (wrap64 (n:Int)) (fun _=>True) rfl rfl rfl (fun _ _=>trivial) (Kd.R_nil _ _ _ _ _) (by rw[HW.out];omega) (zQ _ _) (zI _) ?aL ?_;(case aL=>have:=HN.out;rw[HW.out,List.length_nil];omega);intro v1 w1 ho hb hg hat;clear hg hat;obtain⟨A1,c1,hv⟩:=zY ho;subst hv;have HO:=aM ho;have HB:=aM hb;clear ho hb;(obtain⟨N1,hN1⟩:∃ N1:Nat,N1=(([]:List Int)++List.replicate (wrap64 (n:Int)).toNat 0).length:=⟨_,rfl⟩);rw[← hN1];have HN1:=aM hN1;clear hN1))
   all_goals go_ret
   all_goals first
    | exact⟨_,rfl,Kd.R_nil _ _ _ _ _,zQ _ _⟩
    | exact⟨_,rfl,(by have h_:=Kd.R_take (m:=0) HO.out (Nat.zero_le _);rwa [List.take_zero]at h_),HB.out⟩
def slices_Concat_int_int.f (l0:List Int) (l1:List Int):Option (List Int):=if l0.length+l1.length≤1000000000 then some (l0++l1)else none
theorem slices_Concat_int_int.calls (A0:Option Addr) (c0:Nat) (l0:List Int) (A1:Option Addr) (c1:Nat) (l1:List Int) (r:List Int) (w:World) (hr0:Kd.C (Kd.int .i64) w A0 l0.length l0) (hc0:l0.length≤c0) (hr1:Kd.C (Kd.int .i64) w A1 l1.length l1) (hc1:l1.length≤c1) (h:slices_Concat_int_int.f l0 l1=some r) :
 Calls Try.prog 35 #[.slice (some ⟨w.heap.size,0,none⟩) 2 2] (w.alloc (.cells #[.slice A0 l0.length c0,.slice A1 l1.length c1] 45)) fun e w' => ∃ v0_:Value,e = .returned v0_∧Kd.R (Kd.int .i64) 3 w' w.heap.size (fun _=>True) v0_ r∧Below w.heap.size w w':=by
 unfold slices_Concat_int_int.f at h
 by_cases hl:l0.length+l1.length≤1000000000
 · rw[if_pos hl]at h;obtain rfl:=zC h;have HL:=aM hl;clear h hl;have HB0:=aM (show Below w.heap.size w (w.alloc (.cells #[.slice A0 l0.length c0,.slice A1 l1.length c1] 45))from zz (zQ _ _) _);have BK0:=aM (show(w.alloc (.cells #[.slice A0 l0.length c0,.slice A1 l1.length c1] 45)).heap[w.heap.size]? = some (.cells #[.slice A0 l0.length c0,.slice A1 l1.length c1] 45 (0,0))by simpa using heap_alloc_new w _);have LT:=aM (show w.heap.size<(w.alloc (.cells #[.slice A0 l0.length c0,.slice A1 l1.length c1] 45)).heap.size by simp);have HR0:=aM hr0;have HR1:=aM hr1;clear hr0 hr1 hc0 hc1
   generalize hg0:w.heap.size=g0 at HB0 BK0 LT ⊢
   generalize (w.alloc (.cells #[.slice A0 l0.length c0,.slice A1 l1.length c1] 45))=w1 at HB0 BK0 LT ⊢;have HG:=aM hg0;clear hg0;obtain⟨hx0,hx1⟩:=blk_c2 BK0.out;go_enter Try.func35,Try.ntmps35;go_wp2
   go_loopg [3,5,11] 2 (fun kx v3 v5 v11 wr => ∃ (i t:Nat),v11 = .int .i64 (i:Int)∧v3 = .int .i64 (t:Int)∧2-i≤kx∧((i=0∧t=0)∨(i=1∧t=l0.length)∨(i=2∧t=l0.length+l1.length))∧wr=w1)
   case atStart=>exact⟨0,0,rfl,rfl,by omega,.inl ⟨rfl,rfl⟩,rfl⟩
   case round =>
    obtain⟨i,t,rfl,rfl,hk,hc,rfl⟩:=hrel;have HK:=aM hk;clear hk;rcases hc with ⟨rfl,rfl⟩|⟨rfl,rfl⟩|⟨rfl,rfl⟩
    · have hw2:=aM (show wrap64 ((l0.length:Int))=(l0.length:Int)by have:=HL.out;unfold wrap64;omega);have h1:decide (wrap64 (l0.length:Int)<0)=false:=zO (by rw[hw2.out];omega);go_wp2;go_roundg 1
      case measure=>have:=HK.out;omega
      case rel=>exact⟨1,l0.length,rfl,by rw[hw2.out],by omega,.inr (.inl ⟨rfl,rfl⟩),rfl⟩
    · have hw2:=aM (show wrap64 ((l0.length:Int)+(l1.length:Int))=((l0.length+l1.length:Nat):Int)by have:=HL.out;unfold wrap64;omega);have h1:decide (wrap64 ((l0.length:Int)+(l1.length:Int))<0)=false:=zO (by rw[hw2.out];omega);go_wp2;go_roundg 0
      case measure=>have:=HK.out;omega
      case rel=>exact⟨2,l0.length+l1.length,rfl,by rw[hw2.out],by omega,.inr (.inr ⟨rfl,rfl⟩),rfl⟩
    · clear HK
      go_wp2_with (first|((with_reducible refine gC 76 ?_);refine goesL_ (some 24) rfl rfl Try.func76 (by kernel_rfl) rfl #[.slice none 0 0,.int .i64 ((l0.length+l1.length:Nat):Int)] rfl (by(try simp only[zg,List.map_cons,List.map_nil]);first|done|rfl) ?_;(with_reducible refine(slices_Grow_int.calls (l0.length+l1.length) _ HL.out).mono ?_);rintro e w2 ⟨v6,rfl,ho,hb⟩;refine⟨_,rfl,?_⟩;have HO:=aM (zb ho (Nat.le_of_lt LT.out));have BK:=aM (blk_below (g:=g0) (o:=.cells #[.slice A0 l0.length c0,.slice A1 l1.length c1] 45 (0,0)) BK0.out hb);have HB:=aM (HB0.out.trans (hb.mono (Nat.le_of_lt LT.out)));clear ho hb hx0 hx1))
      go_loopg [6,8,27] 2 (fun kx v6 v8 v27 w' => ∃ (i:Nat) (xs:List Int),v27 = .int .i64 (i:Int)∧2-i≤kx∧((i=0∧xs=[])∨(i=1∧xs=l0)∨(i=2∧xs=l0++l1))∧Aside0 (Kd.R (Kd.int .i64) 3 w' g0 (fun _=>True) v6 xs)∧Aside0 (w'.heap[g0]? = some (.cells #[.slice A0 l0.length c0,.slice A1 l1.length c1] 45 (0,0)))∧Aside0 (Below g0 w w'))
      case atStart=>exact⟨0,[],rfl,by omega,.inl ⟨rfl,rfl⟩,HO,BK,HB⟩
      case round =>
       clear HO BK HB;obtain⟨i,xs,rfl,hk,hc,HO,BK,HB⟩:=hrel;have HK:=aM hk;have LS:=aM (show g0≤wr.heap.size from Nat.le_of_lt (blk_lt BK.out));obtain⟨hx0,hx1⟩:=blk_c2 BK.out;clear hk;rcases hc with ⟨rfl,rfl⟩|⟨rfl,rfl⟩|⟨rfl,rfl⟩
       · have HRR:=HR0
         go_wp2_with (first|((with_reducible refine gate_builtin (b:=.append) (xs:=#[.tmp 31,.tmp 32]) rfl ?_);at_builtin;refine Kd.R_append_rows (Kd.int .i64) (w0:=w) g0 rfl (.tmp 31) (.tmp 32) 45 3 (.int .i64 0) 8 rfl Try.underlying45 info3 rfl (by decide) (by omega) u6 ([]:List Int) l0 _ _ _ (fun _=>True) (fun _=>False) rfl rfl ?aO ?aR (fun _ _ h=>h) (fun _ h=>h.elim) ?aF ?aB ?aS ?aL ?_;(case aO=>exact HO.out);(case aR=>exact Kd.C_below HRR.out (by rw[HG.out];exact HB.out));(case aF=>exact fun _ _=>trivial);(case aB=>exact HB.out);(case aS=>exact LS.out);(case aL=>have:=HL.out;(try simp only[List.length_nil]);omega);intro v7 w3 ho hb hg hat;have HO2:=aM ho;have HB2:=aM hb;have BK2:=aM (zf (g:=g0) (o:=.cells #[.slice A0 l0.length c0,.slice A1 l1.length c1] 45 (0,0)) BK.out hg (zt HO.out BK.out (by decide)));clear ho hb hg hat));go_roundg 1
         case measure=>have:=HK.out;omega
         case rel=>exact⟨1,l0,rfl,by omega,.inr (.inl ⟨rfl,rfl⟩),⟨by have h_:=HO2.out;rwa [List.nil_append]at h_⟩,BK2,HB2⟩
       · have HRR:=HR1
         go_wp2_with (first|((with_reducible refine gate_builtin (b:=.append) (xs:=#[.tmp 31,.tmp 32]) rfl ?_);at_builtin;refine Kd.R_append_rows (Kd.int .i64) (w0:=w) g0 rfl (.tmp 31) (.tmp 32) 45 3 (.int .i64 0) 8 rfl Try.underlying45 info3 rfl (by decide) (by omega) u6 (xs) l1 _ _ _ (fun _=>True) (fun _=>False) rfl rfl ?aO ?aR (fun _ _ h=>h) (fun _ h=>h.elim) ?aF ?aB ?aS ?aL ?_;(case aO=>exact HO.out);(case aR=>exact Kd.C_below HRR.out (by rw[HG.out];exact HB.out));(case aF=>exact fun _ _=>trivial);(case aB=>exact HB.out);(case aS=>exact LS.out);(case aL=>have:=HL.out;(try simp only[List.length_nil]);omega);intro v7 w3 ho hb hg hat;have HO2:=aM ho;have HB2:=aM hb;have BK2:=aM (zf (g:=g0) (o:=.cells #[.slice A0 xs.length c0,.slice A1 l1.length c1] 45 (0,0)) BK.out hg (zt HO.out BK.out (by decide)));clear ho hb hg hat));go_roundg 0
         case measure=>have:=HK.out;omega
         case rel=>exact⟨2,xs++l1,rfl,by omega,.inr (.inr ⟨rfl,rfl⟩),HO2,BK2,HB2⟩
       · go_wp2;go_ret;exact⟨_,rfl,HO.out,HB.out⟩
 · rw[if_neg hl]at h;cases h
end Go.Proofs.Ytldiiicbgdfapaa.PFnExactWovenBlock
