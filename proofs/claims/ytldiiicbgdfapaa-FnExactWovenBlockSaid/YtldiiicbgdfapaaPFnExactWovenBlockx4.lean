/- Walks of functions that the law reaches: each call comes to what the Lean function of its name tells. -/
import Derived.Test.YtldiiicbgdfapaaPFnExactWovenBlockx1
namespace Go.Proofs.Ytldiiicbgdfapaa.PFnExactWovenBlock
open Go.RowKit Go.Proofs.YtldiiicbgdfapaaW.PrintWords Go.Proofs.YtldiiicbgdfapaaW.PrintLast Go.Proofs.YtldiiicbgdfapaaW.PrintMore
attribute [local go_sem] max2_int min2_int max_two min_two max_three min_three max_four min_four
set_option linter.unusedVariables false
set_option maxHeartbeats 8000000
set_option maxRecDepth 100000
set_option linter.unusedSimpArgs false
def spec_l09Trim.l0:Nat→List Int→Int→Int→Option (List Int)
  | 0,_,_,_=>none
  | k+1,x0,x1,x5=>if x5>x1 then(if 0≤(wrap64 (x5-1))then(if(wrap64 (x5-1))<(x0.length:Int)then(if(rd x0 (wrap64 (x5-1)))=0 then(spec_l09Trim.l0 k x0 x1 (wrap64 (x5-1)))else(if 0≤x5 then(if x5≤(x0.length:Int)then(some (x0.take (x5:Int).toNat))else(none))else(none)))else(none))else(none))else(if 0≤x5 then(if x5≤(x0.length:Int)then(some (x0.take (x5:Int).toNat))else(none))else(none))
def spec_l09Trim.f (k:Nat) (l0:List Int) (a1:Int):Option (List Int):=spec_l09Trim.l0 k l0 a1 (l0.length:Int)
theorem spec_l09Trim.calls (k:Nat) (P0_:Nat→Prop) (u9000_:Value) (l0:List Int) (a1:Int) (r:List Int) (w0 w:World) (hB:Below w0.heap.size w0 w) (ho0:Kd.R (Kd.int .i64) 3 w w0.heap.size P0_ u9000_ l0) (h:spec_l09Trim.f k l0 a1=some r) :
 Calls Try.prog 25 #[u9000_,.int .i64 a1] w fun e w' => ∃ v0_:Value,e = .returned (v0_)∧Kd.R (Kd.int .i64) 3 w' w0.heap.size (fun k_=>(P0_ k_∨w.heap.size≤k_)) v0_ r∧Below w0.heap.size w0 w'∧Kept w w' (fun k_=>P0_ k_):=by
 have HO0:=aM (show Kd.R (Kd.int .i64) 3 w w0.heap.size (fun k_=>(P0_ k_∨w.heap.size≤k_)) u9000_ l0 from zH ho0 (fun k_ hk=>(.inl hk)));have HK:=aM (Kept.refl w (fun k_=>P0_ k_));have HW0:=aM hB.size;have HB:=aM hB;clear hB;have H:(spec_l09Trim.l0 k l0 a1 (l0.length:Int))=some r:=h;clear h;revert H;refine adR fun H'=>?_;obtain⟨Ao3,co3,eo3⟩:=zY HO0.out;subst eo3;go_enter Try.func25,Try.ntmps25;go_wp2
 go_loopg [5] k (fun kq v5 w' => ∃ (aa:Int),v5 = .int .i64 aa∧Aside0 (spec_l09Trim.l0 kq l0 a1 aa=some r)∧Aside0 (kq≤k)∧Aside0 (Kd.R (Kd.int .i64) 3 w' w0.heap.size (fun k_=>(P0_ k_∨w.heap.size≤k_)) (.slice Ao3 l0.length co3) l0)∧Aside0 (Kept w w' (fun k_=>P0_ k_))∧Aside0 (Below w0.heap.size w0 w'))
 case atStart=>exact⟨((l0.length:Int)),eQ,H',⟨zI _⟩,⟨zA HO0.out⟩,⟨by repeat (first|(with_reducible first|exact HK.out|apply Kept.alloc|apply Kept.drewN|apply Kept.drew)|exact HK.out)⟩,⟨hB⟩⟩
 case round =>
  clear H';(try clear c2);(try clear p2);obtain⟨aa,rfl,HA,HK1,am,HK,HB⟩:=hrel;rcases gk with _|k1
  · exact absurd HA.out (by simp[spec_l09Trim.l0])
  revert HA;refine aoR ?_;intro H;simp only[spec_l09Trim.l0]at H;revert H
  refine iB (fun aA=>?_) (fun aA=>?_)
  · intro H;obtain⟨ji5,ax⟩:∃ j_:Int,(wrap64 (aa-1))=j_:=⟨_,rfl⟩;replace H:(if 0≤(ji5)then(if(ji5)<(l0.length:Int)then(if(rd l0 (ji5))=0 then(spec_l09Trim.l0 k1 l0 a1 ji5)else(if 0≤aa then(if aa≤(l0.length:Int)then(some (l0.take (aa:Int).toNat))else(none))else(none)))else(none))else(none))=some r:=by first|(rw[ax]at H;exact H)|(simp only[ax]at H ⊢;exact H)
    have bl:(IntKind.i64.wrap (aa-1))=ji5:=(i64_w _).trans ax;revert H;refine iR fun bw=>?_;refine iR fun bx=>?_;intro H;revert H
    refine iQ (fun aN bk=>?_) (fun c8 aN bk=>?_)
    · refine adR fun H'=>?_;have an:0≤((ji5):Int):=bD;have ao:(ji5)<(l0.length:Int):=bD;obtain⟨aI,aQ,aC⟩:=zV (zJ am.out).2.2 (ji5) an ao;cases aQ;replace an:=zB an;replace ao:=zB ao;go_wp2;go_roundg k1
      case measure=>have:=HK1.out;omega
      case rel=>exact⟨(ji5),(by first|rfl|(simp;done)|(simp only[← ax] <;> (first|rfl|simp))|(simp[*];done)),H',⟨by have:=HK1.out;omega⟩,⟨zA am.out⟩,⟨by repeat (first|(with_reducible first|exact HK.out|apply Kept.alloc|apply Kept.drewN|apply Kept.drew)|exact HK.out)⟩,⟨hB⟩⟩
    · refine ifR fun c9=>?_;intro H;have aX:=zB c9;have aY:=zN c9;clear c9;revert H;refine ifR fun c10=>?_;intro H;have bn:=zB c10;have bo:=zN c10;clear c10;obtain⟨aZ,hy_⟩:∃ y_:List Int,y_=(l0.take (aa:Int).toNat):=⟨_,rfl⟩;replace H:(some aZ)=some r:=nH;have aJ:=aM hy_;clear hy_;obtain rfl:=zC H;have an:0≤((ji5):Int):=bD;have ao:(ji5)<(l0.length:Int):=bD;obtain⟨aI,aQ,aC⟩:=zV (zJ am.out).2.2 (ji5) an ao;cases aQ;replace an:=zB an;replace ao:=zB ao;have q11:(aa:Int)≤((l0.length:Int):Int):=bD;obtain⟨i011,hi011,_,hsz11,_⟩:=info_parts info3;have hcut11:=cut_to (P:=Try.prog) 45 3 .i64 Try.underlying45 hi011 (some aI) l0.length co3 aa (bD) q11 (zJ am.out).2.1;have hr11:=Kd.R_take (m:=(aa:Int).toNat) am.out (by omega);have hy11:aZ.length=(aa:Int).toNat:=(by rw[aJ.out,zd];omega)
      rw[← aJ.out]at hr11
      rw[← hy11]at hr11 hcut11;clear hy11 hi011 hsz11 am;have bb:=aM hr11;clear hr11;replace q11:=zB q11;go_wp2;go_ret;exact⟨_,by first|rfl|(simp[errW_none,errW_some] <;> rfl)|(simp only[← ax];first|rfl|(simp[errW_none,errW_some] <;> rfl))|(simp[*,errW_none,errW_some] <;> rfl),zA bb.out,hB,by repeat (first|(with_reducible first|exact HK.out|apply Kept.alloc|apply Kept.drewN|apply Kept.drew)|exact HK.out)⟩
  · refine ifR fun c12=>?_;intro H;have bq:=zB c12;have br:=zN c12;clear c12;revert H;refine ifR fun c13=>?_;intro H;have bu:=zB c13;have bv:=zN c13;clear c13;obtain⟨be,hy_⟩:∃ y_:List Int,y_=(l0.take (aa:Int).toNat):=⟨_,rfl⟩;replace H:(some be)=some r:=nH;have aK:=aM hy_;clear hy_;obtain rfl:=zC H;have q14:(aa:Int)≤((l0.length:Int):Int):=bD;obtain⟨i014,hi014,_,hsz14,_⟩:=info_parts info3;have hcut14:=cut_to (P:=Try.prog) 45 3 .i64 Try.underlying45 hi014 Ao3 l0.length co3 aa (bD) q14 (zJ am.out).2.1;have hr14:=Kd.R_take (m:=(aa:Int).toNat) am.out (by omega);have hy14:be.length=(aa:Int).toNat:=(by rw[aK.out,zd];omega)
    rw[← aK.out]at hr14
    rw[← hy14]at hr14 hcut14;clear hy14 hi014 hsz14 am;have bf:=aM hr14;clear hr14;replace q14:=zB q14;go_wp2;go_ret;exact⟨_,eE,zA bf.out,hB,by repeat (first|(with_reducible first|exact HK.out|apply Kept.alloc|apply Kept.drewN|apply Kept.drew)|exact HK.out)⟩
def spec_TokenOk.f (a0_0:Int) (a0_1:Int) (a0_2:Int):Option (Bool):=if a0_1=0 then((spec_l01In.f a0_0 0 255).bind fun bg=>(if bg=true then(some (a0_2 == 0))else(some false)))else(if a0_0=0 then((spec_l01In.f a0_1 3 258).bind fun bh=>(if bh=true then((spec_l01In.f a0_2 1 32768).bind fun aT=>(some aT))else(some false)))else(some false))
theorem spec_TokenOk.calls (a0_0:Int) (a0_1:Int) (a0_2:Int) (r:Bool) (w:World) (h:spec_TokenOk.f a0_0 a0_1 a0_2=some r) :
 Calls Try.prog 52 #[.agg #[.int .i64 a0_0,.int .i64 a0_1,.int .i64 a0_2]] w fun e w'=>e = .returned (.bool r)∧Below w.heap.size w w':=by
 have hu70:=Try.underlying70;have HB:=aM (zQ w.heap.size w);unfold spec_TokenOk.f at h;have H:=h;clear h;revert H
 refine iQ (fun ak aD=>?_) (fun c2 ak aD=>?_)
 · refine bdR fun bg A3=>?_
   refine bB (fun c4=>?_) (fun c4=>?_)
   · intro H;subst c4;obtain rfl:=zC H;go_enter Try.func52,Try.ntmps52
     go_wp2_with (first|(refine bE 1 #[.int .i64 a0_0,.int .i64 a0_1,.int .i64 a0_2] 70 ?_;intro ar hg w5 hbox hb;have ac:=aM hbox;have ae:=aM (sZ hg);have au:=ae;replace HB:=hS hb;clear hb hbox hg;have hz6:=bz3 ac)|(refine gL (some 8) Try.func62 #[.int .i64 a0_0,.int .i64 0,.int .i64 255] ?_;(with_reducible refine(spec_l01In.calls a0_0 0 255 true _ A3.out).mono ?_);rintro e w' ⟨rfl,⟨nd,rfl⟩⟩;refine⟨_,rfl,?_⟩));go_ret;exact⟨eE,hB⟩
   · intro H;subst c4;obtain rfl:=zC H;go_enter Try.func52,Try.ntmps52
     go_wp2_with (first|(refine bE 1 #[.int .i64 a0_0,.int .i64 a0_1,.int .i64 a0_2] 70 ?_;intro ar hg w7 hbox hb;have ac:=aM hbox;have ae:=aM (sZ hg);have au:=ae;replace HB:=hS hb;clear hb hbox hg;have hz8:=bz3 ac)|(refine gL (some 8) Try.func62 #[.int .i64 a0_0,.int .i64 0,.int .i64 255] ?_;(with_reducible refine(spec_l01In.calls a0_0 0 255 false _ A3.out).mono ?_);rintro e w' ⟨rfl,⟨nd,rfl⟩⟩;refine⟨_,rfl,?_⟩));go_ret;exact⟨eE,hB⟩
 · intro H;revert H
   refine iQ (fun aX aY=>?_) (fun c9 aX aY=>?_)
   · refine bdR fun bh A10=>?_
     refine bB (fun c11=>?_) (fun c11=>?_)
     · intro H;subst c11;revert H;refine bdR fun aT A12=>?_;intro H;obtain rfl:=zC H;go_enter Try.func52,Try.ntmps52
       go_wp2_with (first|(refine bE 1 #[.int .i64 a0_0,.int .i64 a0_1,.int .i64 a0_2] 70 ?_;intro ar hg w13 hbox hb;have ac:=aM hbox;have ae:=aM (sZ hg);have au:=ae;replace HB:=hS hb;clear hb hbox hg;have bz:=bz3 ac)|(go_at_call 62;(with_reducible refine(spec_l01In.calls a0_1 3 258 true _ A10.out).mono ?_);rintro e w' ⟨rfl,⟨nd,rfl⟩⟩)|(go_at_call 62;(with_reducible refine(spec_l01In.calls a0_2 1 32768 aT _ A12.out).mono ?_);rintro e w' ⟨rfl,⟨nd,rfl⟩⟩));go_ret;exact⟨eE,hB⟩
     · intro H;subst c11;obtain rfl:=zC H;go_enter Try.func52,Try.ntmps52
       go_wp2_with (first|(refine bE 1 #[.int .i64 a0_0,.int .i64 a0_1,.int .i64 a0_2] 70 ?_;intro ar hg w15 hbox hb;have ac:=aM hbox;have ae:=aM (sZ hg);have au:=ae;replace HB:=hS hb;clear hb hbox hg;have bA:=bz3 ac)|(go_at_call 62;(with_reducible refine(spec_l01In.calls a0_1 3 258 false _ A10.out).mono ?_);rintro e w' ⟨rfl,⟨nd,rfl⟩⟩));go_ret;exact⟨eE,hB⟩
   · intro H;obtain rfl:=zC H;go_enter Try.func52,Try.ntmps52
     go_wp2_with (first|(refine bE 1 #[.int .i64 a0_0,.int .i64 a0_1,.int .i64 a0_2] 70 ?_;intro ar hg w17 hbox hb;have ac:=aM hbox;have ae:=aM (sZ hg);have au:=ae;replace HB:=hS hb;clear hb hbox hg;have bF:=bz3 ac));go_ret;exact⟨eE,hB⟩
def spec_l09TokensOk.l0:Nat→List (S70)→Int→Option (Bool)
  | 0,_,_=>none
  | k+1,x0,x3=>if x3<(x0.length:Int)then(if 0≤x3 then((spec_TokenOk.f ((rd_T70 x0 x3).f0) ((rd_T70 x0 x3).f1) ((rd_T70 x0 x3).f2)).bind fun t228=>(if t228=true then(spec_l09TokensOk.l0 k x0 (wrap64 (x3+1)))else(some false)))else(none))else(some true)
def spec_l09TokensOk.f (k:Nat) (l0:List (S70)):Option (Bool):=if(l0.length:Int)>12000 then(some false)else(spec_l09TokensOk.l0 k l0 0)
theorem spec_l09TokensOk.calls (k:Nat) (A0:Option Addr) (c0:Nat) (l0:List (S70)) (r:Bool) (w:World) (hr0:Kd.C k70 w A0 l0.length l0) (hc0:l0.length≤c0) (h:spec_l09TokensOk.f k l0=some r) :
 Calls Try.prog 57 #[.slice A0 l0.length c0] w fun e w'=>e = .returned (.bool r)∧Below w.heap.size w w':=by
 have hu70:=Try.underlying70;have HR0:=aM hr0;have HC0:=aM hc0;clear hr0 hc0;have HB:=aM (zQ w.heap.size w);have H:(if(l0.length:Int)>12000 then(some false)else(spec_l09TokensOk.l0 k l0 0))=some r:=h;clear h;revert H
 refine ifB (fun c2=>?_) (fun c2=>?_)
 · intro H;have ak:=zN c2;have aD:decide (12000<l0.length)=true:=zN (by omega);clear c2;obtain rfl:=zC H;go_enter Try.func57,Try.ntmps57;go_wp2;go_ret;exact⟨eE,hB⟩
 · intro H;have ak:=zO c2;have aD:decide (12000<l0.length)=false:=zO (by omega);clear c2;revert H;refine adR fun H'=>?_;go_enter Try.func57,Try.ntmps57;go_wp2
   go_loopg [3] k (fun kq v3 w' => ∃ (ab:Int),v3 = .int .i64 ab∧Aside0 (spec_l09TokensOk.l0 kq l0 ab=some r)∧Aside0 (kq≤k)∧Aside0 (Below w.heap.size w w'))
   case atStart=>exact⟨(0),eQ,H',⟨zI _⟩,⟨hB⟩⟩
   case round =>
    clear H';(try clear c2);(try clear ak);(try clear aD);(try clear p2);obtain⟨ab,rfl,HA,HK1,HB⟩:=hrel;rcases gk with _|k1
    · exact absurd HA.out (by simp[spec_l09TokensOk.l0])
    revert HA;refine aoR ?_;intro H;simp only[spec_l09TokensOk.l0]at H;revert H
    refine iB (fun av=>?_) (fun av=>?_)
    · refine iR fun aA=>?_;refine bdR fun t228 A5=>?_
      refine bB (fun c6=>?_) (fun c6=>?_)
      · intro H;subst c6;revert H;refine adR fun H'=>?_;have ap:0≤(ab:Int):=bD;have aq:ab<(l0.length:Int):=bD;obtain⟨bi,aU,af,ag,ah⟩:=at_T70 HR0.out ab ap aq;cases aU;replace af:=cB0 HB af;replace ag:=cB0 HB ag;replace ah:=cB0 HB ah;replace ap:=zB ap;replace aq:=zB aq
        go_wp2_with (first|(refine gL (some 17) Try.func52 #[.agg #[.int .i64 ((rd_T70 l0 ab).f0),.int .i64 ((rd_T70 l0 ab).f1),.int .i64 ((rd_T70 l0 ab).f2)]] ?_;(with_reducible refine(spec_TokenOk.calls ((rd_T70 l0 ab).f0) ((rd_T70 l0 ab).f1) ((rd_T70 l0 ab).f2) true _ A5.out).mono ?_);rintro e w7 ⟨rfl,hb⟩;refine⟨_,rfl,?_⟩;replace HB:=hS hb;clear hb));go_roundg k1
        case measure=>have:=HK1.out;omega
        case rel=>exact⟨(wrap64 (ab+1)),eQ,H',⟨by have:=HK1.out;omega⟩,⟨hB⟩⟩
      · intro H;subst c6;obtain rfl:=zC H;have ap:0≤(ab:Int):=bD;have aq:ab<(l0.length:Int):=bD;obtain⟨bi,aU,af,ag,ah⟩:=at_T70 HR0.out ab ap aq;cases aU;replace af:=cB0 HB af;replace ag:=cB0 HB ag;replace ah:=cB0 HB ah;replace ap:=zB ap;replace aq:=zB aq
        go_wp2_with (first|(refine gL (some 17) Try.func52 #[.agg #[.int .i64 ((rd_T70 l0 ab).f0),.int .i64 ((rd_T70 l0 ab).f1),.int .i64 ((rd_T70 l0 ab).f2)]] ?_;(with_reducible refine(spec_TokenOk.calls ((rd_T70 l0 ab).f0) ((rd_T70 l0 ab).f1) ((rd_T70 l0 ab).f2) false _ A5.out).mono ?_);rintro e w8 ⟨rfl,hb⟩;refine⟨_,rfl,?_⟩;replace HB:=hS hb;clear hb));go_ret;exact⟨eE,hB⟩
    · intro H;obtain rfl:=zC H;go_wp2;go_ret;exact⟨eE,hB⟩
def spec_l06LengthBits.l0:Nat→Int→Int→Int→Int→Option (Int×Int)
  | 0,_,_,_,_=>none
  | k+1,x0,x4,x5,x6=>if x6<x0 then((spec_l01Pow.f k (wrap64 (Int.tdiv (wrap64 (x6-261)) 4))).bind fun t229=>(spec_l06LengthBits.l0 k x0 x4 (wrap64 (x5+t229)) (wrap64 (x6+1))))else(some (x4,x5))
def spec_l06LengthBits.f (k:Nat) (a0:Int):Option (Int×Int):=if a0<265 then(some (0,wrap64 (a0-254)))else(if a0=285 then(some (0,258))else(spec_l06LengthBits.l0 k a0 (wrap64 (Int.tdiv (wrap64 (a0-261)) 4)) 11 265))
theorem spec_l06LengthBits.calls (k:Nat) (a0:Int) (r1:Int) (r2:Int) (w:World) (h:spec_l06LengthBits.f k a0=some (r1,r2)) :
 Calls Try.prog 93 #[.int .i64 a0] w fun e w'=>e = .returned (.tuple #[.int .i64 r1,.int .i64 r2])∧Drawn0 w w':=by
 have H:(if a0<265 then(some (0,wrap64 (a0-254)))else(if a0=285 then(some (0,258))else(spec_l06LengthBits.l0 k a0 (wrap64 (Int.tdiv (wrap64 (a0-261)) 4)) 11 265)))=some (r1,r2):=h;clear h;revert H
 refine iB (fun ak=>?_) (fun ak=>?_)
 · intro H;simp only[zL,zM]at H;obtain⟨rfl,rfl⟩:=H;go_enter Try.func93,Try.ntmps93;go_wp2
   go_ret2;exact⟨eQ,dQ⟩
 · intro H;revert H
   refine iQ (fun av bj=>?_) (fun c3 av bj=>?_)
   · intro H;simp only[zL,zM]at H;obtain⟨rfl,rfl⟩:=H;go_enter Try.func93,Try.ntmps93;go_wp2
     go_ret2;exact⟨eQ,dQ⟩
   · refine adR fun H'=>?_;go_enter Try.func93,Try.ntmps93;go_wp2
     go_loopg [5,6] k (fun kq v5 v6 w' => ∃ (aa:Int) (ai:Int),v5 = .int .i64 aa∧v6 = .int .i64 ai∧Aside0 (spec_l06LengthBits.l0 kq a0 (wrap64 (Int.tdiv (wrap64 (a0-261)) 4)) aa ai=some (r1,r2))∧Aside0 (kq≤k)∧Drawn0 w w')
     case atStart=>exact⟨(11),(265),eQ,eQ,H',⟨zI _⟩,dQ⟩
     case round =>
      clear H';(try clear c2);(try clear ak);(try clear p2);(try clear c3);(try clear av);(try clear bj);obtain⟨aa,ai,rfl,rfl,HA,HK1,⟨m1,rfl⟩⟩:=hrel;rcases gk with _|k1
      · exact absurd HA.out (by simp[spec_l06LengthBits.l0])
      revert HA;refine aoR ?_;intro H;simp only[spec_l06LengthBits.l0]at H;revert H
      refine iB (fun aA=>?_) (fun aA=>?_)
      · refine bdR fun t229 A5=>?_;refine adR fun H'=>?_
        go_wp2_with (first|(refine gL (some 25) Try.func63 #[.int .i64 (wrap64 (Int.tdiv (wrap64 (ai-261)) 4))] ?_;(with_reducible refine(spec_l01Pow.calls k1 (wrap64 (Int.tdiv (wrap64 (ai-261)) 4)) t229 _ A5.out).mono ?_);rintro e w' ⟨rfl,⟨nd,rfl⟩⟩;refine⟨_,rfl,?_⟩));go_roundg k1
        case measure=>have:=HK1.out;omega
        case rel=>exact⟨(wrap64 (aa+t229)),(wrap64 (ai+1)),eQ,eQ,H',⟨by have:=HK1.out;omega⟩,dQ⟩
      · intro H;simp only[zL,zM]at H;obtain⟨rfl,rfl⟩:=H;go_wp2
        go_ret2;exact⟨eQ,dQ⟩
mutual
def spec_LengthCode.l0:Nat→Int→Int→Int→Int→Int→Option (Int×Int×Int)
  | 0,_,_,_,_,_=>none
  | k+1,x0,x5,x6,x7,x8=>if x8<285 then(spec_LengthCode.j1 k x0 x5 x6 x7 x8 (decide (x0<258)))else(spec_LengthCode.j1 k x0 x5 x6 x7 x8 false)
def spec_LengthCode.j1:Nat→Int→Int→Int→Int→Int→Bool→Option (Int×Int×Int)
  | 0,_,_,_,_,_,_=>none
  | k+1,x0,x5,x6,x7,x8,x19=>if x19=true then((spec_l06LengthBits.f k x8).bind fun bt231=>(if bt231.2≤x0 then(spec_LengthCode.l0 k x0 x8 bt231.1 bt231.2 (wrap64 (x8+1)))else(spec_LengthCode.l0 k x0 x5 x6 x7 (wrap64 (x8+1)))))else(some (x5,x6,wrap64 (x0-x7)))
end
def spec_LengthCode.f (k:Nat) (a0:Int):Option (Int×Int×Int):=(spec_l01In.f a0 3 258).bind fun aG=>(if aG=true then(spec_LengthCode.l0 k a0 285 0 258 257)else(some (0,0,0)))
theorem spec_LengthCode.calls (k:Nat) (a0:Int) (r1:Int) (r2:Int) (r3:Int) (w:World) (h:spec_LengthCode.f k a0=some (r1,r2,r3)) :
 Calls Try.prog 58 #[.int .i64 a0] w fun e w'=>e = .returned (.tuple #[.int .i64 r1,.int .i64 r2,.int .i64 r3])∧Drawn0 w w':=by
 have H:((spec_l01In.f a0 3 258).bind fun aG=>(if aG=true then(spec_LengthCode.l0 k a0 285 0 258 257)else(some (0,0,0))))=some (r1,r2,r3):=h;clear h;revert H;refine bdR fun aG A2=>?_
 refine bB (fun c3=>?_) (fun c3=>?_)
 · intro H;subst c3;revert H;refine adR fun H'=>?_;go_enter Try.func58,Try.ntmps58
   go_wp2_with (first|(refine gL (some 12) Try.func62 #[.int .i64 a0,.int .i64 3,.int .i64 258] ?_;(with_reducible refine(spec_l01In.calls a0 3 258 true _ A2.out).mono ?_);rintro e w' ⟨rfl,⟨nd,rfl⟩⟩;refine⟨_,rfl,?_⟩))
   go_loopg [5,6,7,8] k (fun kq v5 v6 v7 v8 w' => ∃ (aa:Int) (ai:Int) (ay:Int) (aj:Int),v5 = .int .i64 aa∧v6 = .int .i64 ai∧v7 = .int .i64 ay∧v8 = .int .i64 aj∧Aside0 (spec_LengthCode.l0 kq a0 aa ai ay aj=some (r1,r2,r3))∧Aside0 (kq≤k)∧Drawn0 w w')
   case atStart=>exact⟨(285),(0),(258),(257),eQ,eQ,eQ,eQ,H',⟨zI _⟩,dQ⟩
   case round =>
    clear H';(try clear p2);(try clear c3);obtain⟨aa,ai,ay,aj,rfl,rfl,rfl,rfl,HA,HK1,⟨m1,rfl⟩⟩:=hrel;rcases gk with _|k1
    · exact absurd HA.out (by simp[spec_LengthCode.l0])
    revert HA;refine aoR ?_;intro H;simp only[spec_LengthCode.l0]at H;revert H;refine adR fun HC4=>?_
    go_upto_region 7 with (fail)
    go_cut [19] (fun v19 wc => ∃ (kq:Nat) (az:Bool),v19 = .bool az∧Aside0 (spec_LengthCode.j1 kq a0 aa ai ay aj az=some (r1,r2,r3))∧Aside0 (kq≤k1)∧Drawn0 w wc)
    case first =>
     revert HC4;refine aoR ?_
     refine ifB (fun c5=>?_) (fun c5=>?_)
     · intro H;have aw:=zN c5;clear c5
       (first|rw[aw]|(simp only[i64_w,i32_w];rw[aw])|skip);revert H;refine adR fun H'=>?_;go_wp2;go_meet
       case rel=>exact⟨_,(decide (a0<258)),eQ,H',⟨by have:=HK1.out;first|omega|exact zI _⟩,dQ⟩
     · intro H;have aw:=zO c5;clear c5
       (first|rw[aw]|(simp only[i64_w,i32_w];rw[aw])|skip);revert H;refine adR fun H'=>?_;go_wp2;go_meet
       case rel=>exact⟨_,(false),eQ,H',⟨by have:=HK1.out;first|omega|exact zI _⟩,dQ⟩
    case rest =>
     clear HC4;(try clear p2);(try clear c3);(try clear c5);(try clear aw);obtain⟨kq,az,rfl,HA,HJ3,⟨mc3,rfl⟩⟩:=hcut;rcases kq with _|kj3
     · exact absurd HA.out (by simp[spec_LengthCode.j1])
     revert HA;refine aoR ?_;intro H;simp only[spec_LengthCode.j1]at H;revert H
     refine bB (fun c6=>?_) (fun c6=>?_)
     · intro H;subst c6;revert H;refine bdR fun⟨aV,aW⟩ A7=>?_;intro H
       try dsimp only at H
       revert H
       refine iB (fun aN=>?_) (fun aN=>?_)
       · refine adR fun H'=>?_
         go_wp2_with (first|(refine gL (some 24) Try.func93 #[.int .i64 aj] ?_;(with_reducible refine(spec_l06LengthBits.calls kj3 aj aV aW _ A7.out).mono ?_);rintro e w' ⟨rfl,⟨nd,rfl⟩⟩;refine⟨_,rfl,?_⟩));go_roundg kj3
         case measure=>have:=HK1.out;have:=HJ3.out;omega
         case rel=>exact⟨(aj),(aV),(aW),(wrap64 (aj+1)),eQ,eQ,eQ,eQ,H',⟨by have:=HK1.out;have:=HJ3.out;omega⟩,dQ⟩
       · refine adR fun H'=>?_
         go_wp2_with (first|(refine gL (some 24) Try.func93 #[.int .i64 aj] ?_;(with_reducible refine(spec_l06LengthBits.calls kj3 aj aV aW _ A7.out).mono ?_);rintro e w' ⟨rfl,⟨nd,rfl⟩⟩;refine⟨_,rfl,?_⟩));go_roundg kj3
         case measure=>have:=HK1.out;have:=HJ3.out;omega
         case rel=>exact⟨(aa),(ai),(ay),(wrap64 (aj+1)),eQ,eQ,eQ,eQ,H',⟨by have:=HK1.out;have:=HJ3.out;omega⟩,dQ⟩
     · intro H;subst c6;simp only[zL,zM]at H;obtain⟨rfl,rfl,rfl⟩:=H;go_wp2
       go_ret3;exact⟨eQ,dQ⟩
 · intro H;subst c3;simp only[zL,zM]at H;obtain⟨rfl,rfl,rfl⟩:=H;go_enter Try.func58,Try.ntmps58
   go_wp2_with (first|(refine gL (some 12) Try.func62 #[.int .i64 a0,.int .i64 3,.int .i64 258] ?_;(with_reducible refine(spec_l01In.calls a0 3 258 false _ A2.out).mono ?_);rintro e w' ⟨rfl,⟨nd,rfl⟩⟩;refine⟨_,rfl,?_⟩))
   go_ret3;exact⟨eQ,dQ⟩
def spec_l06DistBits.l0:Nat→Int→Int→Int→Option (Int×Int)
  | 0,_,_,_=>none
  | k+1,x0,x4,x5=>if x5<x0 then((spec_l01Pow.f k (wrap64 (Int.tdiv (wrap64 (x5-2)) 2))).bind fun t233=>(spec_l06DistBits.l0 k x0 (wrap64 (x4+t233)) (wrap64 (x5+1))))else(some (wrap64 (Int.tdiv (wrap64 (x0-2)) 2),x4))
def spec_l06DistBits.f (k:Nat) (a0:Int):Option (Int×Int):=if a0<4 then(some (0,wrap64 (a0+1)))else(spec_l06DistBits.l0 k a0 5 4)
theorem spec_l06DistBits.calls (k:Nat) (a0:Int) (r1:Int) (r2:Int) (w:World) (h:spec_l06DistBits.f k a0=some (r1,r2)) :
 Calls Try.prog 94 #[.int .i64 a0] w fun e w'=>e = .returned (.tuple #[.int .i64 r1,.int .i64 r2])∧Drawn0 w w':=by
 have H:(if a0<4 then(some (0,wrap64 (a0+1)))else(spec_l06DistBits.l0 k a0 5 4))=some (r1,r2):=h;clear h;revert H
 refine iB (fun ak=>?_) (fun ak=>?_)
 · intro H;simp only[zL,zM]at H;obtain⟨rfl,rfl⟩:=H;go_enter Try.func94,Try.ntmps94;go_wp2
   go_ret2;exact⟨eQ,dQ⟩
 · refine adR fun H'=>?_;go_enter Try.func94,Try.ntmps94;go_wp2
   go_loopg [4,5] k (fun kq v4 v5 w' => ∃ (aH:Int) (aa:Int),v4 = .int .i64 aH∧v5 = .int .i64 aa∧Aside0 (spec_l06DistBits.l0 kq a0 aH aa=some (r1,r2))∧Aside0 (kq≤k)∧Drawn0 w w')
   case atStart=>exact⟨(5),(4),eQ,eQ,H',⟨zI _⟩,dQ⟩
   case round =>
    clear H';(try clear c2);(try clear ak);(try clear p2);obtain⟨aH,aa,rfl,rfl,HA,HK1,⟨m1,rfl⟩⟩:=hrel;rcases gk with _|k1
    · exact absurd HA.out (by simp[spec_l06DistBits.l0])
    revert HA;refine aoR ?_;intro H;simp only[spec_l06DistBits.l0]at H;revert H
    refine iB (fun av=>?_) (fun av=>?_)
    · refine bdR fun t233 A4=>?_;refine adR fun H'=>?_
      go_wp2_with (first|(refine gL (some 19) Try.func63 #[.int .i64 (wrap64 (Int.tdiv (wrap64 (aa-2)) 2))] ?_;(with_reducible refine(spec_l01Pow.calls k1 (wrap64 (Int.tdiv (wrap64 (aa-2)) 2)) t233 _ A4.out).mono ?_);rintro e w' ⟨rfl,⟨nd,rfl⟩⟩;refine⟨_,rfl,?_⟩));go_roundg k1
      case measure=>have:=HK1.out;omega
      case rel=>exact⟨(wrap64 (aH+t233)),(wrap64 (aa+1)),eQ,eQ,H',⟨by have:=HK1.out;omega⟩,dQ⟩
    · intro H;simp only[zL,zM]at H;obtain⟨rfl,rfl⟩:=H;go_wp2
      go_ret2;exact⟨eQ,dQ⟩
end Go.Proofs.Ytldiiicbgdfapaa.PFnExactWovenBlock
