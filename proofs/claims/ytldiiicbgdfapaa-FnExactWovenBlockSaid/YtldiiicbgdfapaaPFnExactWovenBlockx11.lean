/- Walks of functions that the law reaches: each call comes to what the Lean function of its name tells. -/
import Derived.Test.YtldiiicbgdfapaaPFnExactWovenBlockx10
namespace Go.Proofs.Ytldiiicbgdfapaa.PFnExactWovenBlock
open Go.RowKit Go.Proofs.YtldiiicbgdfapaaW.PrintWords Go.Proofs.YtldiiicbgdfapaaW.PrintLast Go.Proofs.YtldiiicbgdfapaaW.PrintMore
attribute [local go_sem] max2_int min2_int max_two min_two max_three min_three max_four min_four
set_option linter.unusedVariables false
set_option maxHeartbeats 8000000
set_option maxRecDepth 100000
set_option linter.unusedSimpArgs false
def spec_l09Body.l0:Nat→List (S70)→List Int→List Int→List Int→List Int→List (S62)→Int→Option ((List (S62)))
  | 0,_,_,_,_,_,_,_=>none
  | k+1,x0,x1,x2,x7,x9,x11,x12=>if x12<(x0.length:Int)then(if 0≤x12 then(if((rd_T70 x0 x12).f1)=0 then(if 0≤((rd_T70 x0 x12).f0)then(if((rd_T70 x0 x12).f0)<(x7.length:Int)then(if((rd_T70 x0 x12).f0)<(x1.length:Int)then(if x11.length<5864062014805 then(spec_l09Body.l0 k x0 x1 x2 x7 x9 (x11++[(⟨rd x7 ((rd_T70 x0 x12).f0),rd x1 ((rd_T70 x0 x12).f0),true⟩:S62)]) (wrap64 (x12+1)))else(none))else(none))else(none))else(none))else((spec_LengthCode.f k ((rd_T70 x0 x12).f1)).bind fun bt419=>((spec_DistCode.f k ((rd_T70 x0 x12).f2)).bind fun bt423=>(if 0≤bt419.1 then(if bt419.1<(x7.length:Int)then(if bt419.1<(x1.length:Int)then(if 0≤bt423.1 then(if bt423.1<(x9.length:Int)then(if bt423.1<(x2.length:Int)then((some (([(⟨rd x7 bt419.1,rd x1 bt419.1,true⟩:S62),(⟨bt419.2.2,bt419.2.1,false⟩:S62),(⟨rd x9 bt423.1,rd x2 bt423.1,true⟩:S62),(⟨bt423.2.2,bt423.2.1,false⟩:S62)]:List (S62)):List (S62))).bind fun y430=>(if x11.length+y430.length<5864062014805 then(spec_l09Body.l0 k x0 x1 x2 x7 x9 (x11++y430) (wrap64 (x12+1)))else(none)))else(none))else(none))else(none))else(none))else(none))else(none)))))else(none))else(if 256<(x7.length:Int)then(if 256<(x1.length:Int)then(if x11.length<5864062014805 then(some (x11++[(⟨rd x7 256,rd x1 256,true⟩:S62)]))else(none))else(none))else(none))
def spec_l09Body.f (k:Nat) (l0:List (S70)) (l1:List Int) (l2:List Int):Option ((List (S62))):=(spec_CodesOf.f k l1).bind fun bg=>((spec_CodesOf.f k l2).bind fun bh=>(spec_l09Body.l0 k l0 l1 l2 bg.1 bh.1 (([]:List (S62))) 0))
def spec_l09Body.T9:Bool×List (List Nat×List Nat):=(true,[([],[]),([],[]),([],[]),([1,2],[1,2]),([3],[3]),([],[]),([],[]),([5,6],[5,6]),([7],[7]),([4,8],[4,8]),([9],[9]),([0,10],[0,10]),([11,11,0,1,2,3,4,5,6,7,8,9,10,11],[0,11])])
def spec_l09Body.B9:List Nat:=[0,0,0,6,14,0,0,96,224,510,1022,2047,4095]
theorem spec_l09Body.tab9:rtab .any (opsOf Try.f29 9)=spec_l09Body.T9:=by kernel_rfl
theorem spec_l09Body.bits9:waitsOk spec_l09Body.T9.2 spec_l09Body.B9=true:=by kernel_rfl
def spec_l09Body.T12:Bool×List (List Nat×List Nat):=(true,[([],[]),([],[]),([],[]),([1,2],[1,2]),([3],[3]),([],[]),([],[]),([5,6],[5,6]),([7],[7]),([4,8],[4,8]),([],[]),([],[]),([10,11],[10,11]),([],[]),([],[]),([13,14],[13,14]),([15],[15]),([],[]),([],[]),([17,18],[17,18]),([19],[19]),([16,20],[16,20]),([],[]),([],[]),([22,23],[22,23]),([9,12,21,24],[9,12,21,24]),([0,25],[0,25]),([26,26,0,1,2,3,4,5,6,7,8,9,10,11,12,13,14,15,16,17,18,19,20,21,22,23,24,25,26],[0,26])])
def spec_l09Body.B12:List Nat:=[0,0,0,6,14,0,0,96,224,510,0,0,3072,0,0,24576,57344,0,0,393216,917504,2088960,0,0,12582912,33554430,67108863,134217727]
theorem spec_l09Body.tab12:rtab .any (opsOf Try.f29 12)=spec_l09Body.T12:=by kernel_rfl
theorem spec_l09Body.bits12:waitsOk spec_l09Body.T12.2 spec_l09Body.B12=true:=by kernel_rfl
def spec_l09Body.T13:Bool×List (List Nat×List Nat):=(true,[([],[]),([],[]),([1],[1]),([2],[2]),([],[]),([4],[4]),([5],[5]),([3,6],[3,6]),([7],[7]),([0,8],[0,8]),([9,9,0,1,2,3,4,5,6,7,8,9],[9])])
def spec_l09Body.B13:List Nat:=[0,0,2,6,0,16,48,126,254,511,1023]
theorem spec_l09Body.tab13:rtab .any (opsOf Try.f29 13)=spec_l09Body.T13:=by kernel_rfl
theorem spec_l09Body.bits13:waitsOk spec_l09Body.T13.2 spec_l09Body.B13=true:=by kernel_rfl
theorem spec_l09Body.calls (k:Nat) (A0:Option Addr) (c0:Nat) (l0:List (S70)) (A1:Option Addr) (c1:Nat) (l1:List Int) (A2:Option Addr) (c2:Nat) (l2:List Int) (r:List (S62)) (w:World) (hr0:Kd.C k70 w A0 l0.length l0) (hc0:l0.length≤c0) (hr1:Kd.C (Kd.int .i64) w A1 l1.length l1) (hc1:l1.length≤c1) (hr2:Kd.C (Kd.int .i64) w A2 l2.length l2) (hc2:l2.length≤c2) (h:spec_l09Body.f k l0 l1 l2=some r) :
 Calls Try.prog 29 #[.slice A0 l0.length c0,.slice A1 l1.length c1,.slice A2 l2.length c2] w fun e w' => ∃ v0_:Value,e = .returned (v0_)∧Kd.R k62 62 w' w.heap.size (fun _=>True) v0_ r∧Below w.heap.size w w':=by
 have hu62:=Try.underlying62;have HR0:=aM hr0;have HC0:=aM hc0;clear hr0 hc0;have HR1:=aM hr1;have HC1:=aM hc1;clear hr1 hc1;have HR2:=aM hr2;have HC2:=aM hc2;clear hr2 hc2;have HB:=aM (zQ w.heap.size w);have H:((spec_CodesOf.f k l1).bind fun bg=>((spec_CodesOf.f k l2).bind fun bh=>(spec_l09Body.l0 k l0 l1 l2 bg.1 bh.1 (([]:List (S62))) 0)))=some r:=h;clear h;revert H;refine bdR fun⟨ac,cF⟩ A4=>?_;intro H
 try dsimp only at H
 revert H;refine bdR fun⟨ak,cG⟩ A5=>?_;intro H
 try dsimp only at H
 obtain⟨bZ,hy_⟩:∃ y_:List (S62),y_=(([]:List (S62))):=⟨_,rfl⟩;replace H:(spec_l09Body.l0 k l0 l1 l2 ac ak bZ 0)=some r:=nH;have bn:=aM hy_;clear hy_;revert H;refine adR fun H'=>?_;go_enter Try.func29,Try.ntmps29
 go_wp2_with (first|(refine gL (some 22) Try.func27 #[.slice A1 l1.length c1] ?_;(with_reducible refine(spec_CodesOf.calls k _ _ l1 ac cF _ ?s1 HC1.out A4.out).mono ?_);(case s1=>exact Kd.C_i HR1.out);rintro e w6 ⟨bj,rfl,ho0,hb⟩;refine⟨_,rfl,?_⟩;have aw:=aM (zb ho0 (zD hB));replace HB:=hS hb;clear hb ho0)|(refine gL (some 27) Try.func27 #[.slice A2 l2.length c2] ?_;(with_reducible refine(spec_CodesOf.calls k _ _ l2 ak cG _ (Kd.C_i (Kd.C_below HR2.out HB.out)) HC2.out A5.out).mono ?_);rintro e w7 ⟨bk,rfl,ho0,hb⟩;refine⟨_,rfl,?_⟩;have bi:=aM (zb (zi ho0 (zX (zA aw.out))) (zD hB));replace aw:=aM (zZ (zA aw.out) (ze ho0) hb);replace HB:=hS hb;clear hb ho0)|((with_reducible refine gD 30 ?_);refine Kd.R_lit k62 _ 62 ?hg (N:=30) ?hd (xs:=([]:List (S62))) (inner:=[]) (ok:=fun _=>True) (okp:=fun _=>True) ?hr ?hp (fun _ hk=>hk) trivial (zQ _ _) (zI _) (by simp) ?_;(case hd=>rfl);(case hg=>rfl);(case hr=>first|(go_simp;done)|(go_simp;rfl));(case hp=>exact(Reps.none _ _));intro dm w8 ho9 hb hg_ hnew_;clear hg_ hnew_;(first|rw[← bn.out]at ho9|(simp only[Int.reduceToNat]at ho9;rw[← bn.out]at ho9));replace aw:=Kd.wR aw hb;replace bi:=Kd.wR bi hb;have b0:=aM (zb ho9 (zD hB));replace HB:=hS hb;clear hb ho9))
 go_loopg [11,12] k (fun kq v11 v12 w' => ∃ (ai:List (S62)) (aa:Int),v12 = .int .i64 aa∧Aside0 (spec_l09Body.l0 kq l0 l1 l2 ac ak ai aa=some r)∧Aside0 (kq≤k)∧Aside0 (Kd.R (Kd.int .i64) 3 w' w.heap.size (fun k_=>some k_≠(bk:Value).ownBlock) bj ac)∧Aside0 (Kd.R (Kd.int .i64) 3 w' w.heap.size (fun k_=>some k_≠(bj:Value).ownBlock) bk ak)∧Aside0 (Kd.R k62 62 w' w.heap.size (fun _=>True) v11 ai)∧Aside0 (Below w.heap.size w w'))
 case atStart=>exact⟨(bZ),(0),eQ,H',⟨zI _⟩,⟨zA (zH aw.out (fun _ hk=>hk.2))⟩,⟨zA (zH bi.out (fun _ hk=>hk.2))⟩,⟨zA b0.out⟩,⟨hB⟩⟩
 case round =>
  clear H';(try clear c1);(try clear c2);(try clear p2);obtain⟨ai,aa,rfl,HA,HK1,ae,af,ab,HB⟩:=hrel;rcases gk with _|k1
  · exact absurd HA.out (by simp[spec_l09Body.l0])
  revert HA;refine aoR ?_;intro H;simp only[spec_l09Body.l0]at H;revert H
  refine iB (fun b6=>?_) (fun b6=>?_)
  · refine iR fun cW=>?_;intro H;revert H
    refine iQ (fun b7 b8=>?_) (fun c12 b7 b8=>?_)
    · refine iR fun cX=>?_;refine iR fun cY=>?_;refine iR fun cZ=>?_;refine ifR fun c16=>?_;intro H;have b9:=aM c16;clear c16;obtain⟨ca,hy_⟩:∃ y_:List (S62),y_=(ai++[(⟨rd ac ((rd_T70 l0 aa).f0),rd l1 ((rd_T70 l0 aa).f0),true⟩:S62)]):=⟨_,rfl⟩;replace H:(spec_l09Body.l0 k1 l0 l1 l2 ac ak ca (wrap64 (aa+1)))=some r:=nH;have cd:=aM hy_;clear hy_;revert H;refine adR fun H'=>?_;have ay:0≤(aa:Int):=bD;have az:aa<(l0.length:Int):=bD;obtain⟨aH,bu,am,an,ao⟩:=at_T70 HR0.out aa ay az;cases bu;replace am:=cB0 HB am;replace an:=cB0 HB an;replace ao:=cB0 HB ao;replace ay:=zB ay;replace az:=zB az;have bv:0≤(aa:Int):=bD;have bw:aa<(l0.length:Int):=bD;obtain⟨ce,cH,aI,aJ,aK⟩:=at_T70 HR0.out aa bv bw;obtain rfl:aH=ce:=(by injection cH);replace aI:=cB0 HB aI;replace aJ:=cB0 HB aJ;replace aK:=cB0 HB aK;replace bv:=zB bv;replace bw:=zB bw
      try go_wp2
      replace ae:=aM (zW ae.out);replace af:=aM (zW af.out);replace ab:=aM (zW ab.out);replace HB:=aM (zy HB.out);obtain⟨dn,dp,cg⟩:=zY ae.out
      (first|subst cg|(injection cg with f1_ f2_ f3_;have f4_:=f1_.symm;have f5_:=f3_.symm;clear f1_ f2_ f3_;subst f4_;subst f5_));have bx:0≤(((rd_T70 l0 aa).f0):Int):=bD;have bz:((rd_T70 l0 aa).f0)<(ac.length:Int):=bD;obtain⟨ch,cI,aN⟩:=zV (zJ ae.out).2.2 ((rd_T70 l0 aa).f0) bx bz;cases cI;replace bx:=zB bx;replace bz:=zB bz;have bA:0≤(((rd_T70 l0 aa).f0):Int):=bD;have bF:((rd_T70 l0 aa).f0)<(l1.length:Int):=bD;obtain⟨ci,cJ,ap⟩:=zV HR1.out ((rd_T70 l0 aa).f0) bA bF;have bl:=ap;cases cJ;replace ap:=cB0 HB ap;replace bA:=zB bA;replace bF:=zB bF
      refine start_ (n:=13) (S:=fun w'=>w'.cell? (ch.add (((rd_T70 l0 aa).f0)).toNat)=some (.int .i64 (rd ac ((rd_T70 l0 aa).f0)))∧w'.cell? (ci.add (((rd_T70 l0 aa).f0)).toNat)=some (.int .i64 (rd l1 ((rd_T70 l0 aa).f0)))) (ds:=[10,11]) (bAr 13 0) (by kernel_rfl) rfl rfl ⟨aN,(cB HB bl)⟩ (fun hHeld=>?_);refine with_tabW spec_l09Body.tab9 spec_l09Body.bits9 (fun HT_ HW_=>?_)
      generalize wr.drew=w17 at ae af ab HB aN ap hHeld ⊢;refine pU 0 48 (bAr 13 1) ?_;refine pU 1 49 (bAr 13 3) ?_;refine pU 2 50 (bAr 13 7) ?_;refine pU 3 51 (bAr 13 15) ?_;refine pU 5 53 (bAr 13 47) ?_;refine pU 6 54 (bAr 13 111) ?_;refine pU 7 55 (bAr 13 239) ?_
      refine tK 4 52 (bAr 13 255) ?_
      refine tK 8 56 (bAr 13 511) ?_;refine pU 9 57 (bAr 13 1023) ?_
      refine last_ (i:=10) (N:=some 58) (bAr 13 2047) rfl rfl (one_of HT_.out (by kernel_rfl)) (by decide) (fun K hK=>?_)
      refine value_ (w1:=?_) (v:=?_) (by rfl) rfl ?_ ?_;rotate_left 2
      · go_simp
        constructor
        · rfl
        · rfl
      refine hK.out _ _ ?_;clear hK K
      refine norm_ (a':=?_) ?_ ?_;rotate_left
      · show Act.put _ (some 58) _=_
        simp only[Act.put,zE,zF,zG,i64_w,i32_w]
        rfl
      refine last_ (i:=11) (N:=some 59) (bAr 13 4095) rfl rfl (one_of HT_.out (by kernel_rfl)) (by decide) (fun K hK=>?_)
      refine Kd.R_append_step k62 (w0:=w) w.heap.size (by rfl) (.tmp 48) (.tmp 58) 63 62 (.agg #[(.int .i64 0),(.int .i64 0),(.bool false)]) 24 rfl Try.underlying63 info62 rfl (by decide) (by omega) u11 ai (⟨rd ac ((rd_T70 l0 aa).f0),rd l1 ((rd_T70 l0 aa).f0),true⟩:S62) [.int .i64 (rd ac ((rd_T70 l0 aa).f0)),.int .i64 (rd l1 ((rd_T70 l0 aa).f0)),.bool true] (fun _=>True) (fun _=>False) rfl rfl ?aP (fun _ hk=>hk.elim) ?aF ?aO ?aB ?aS ?aL ?_
      (case aP=>exact k62_mkM _ _ _ (⟨rd ac ((rd_T70 l0 aa).f0),rd l1 ((rd_T70 l0 aa).f0),true⟩:S62))
      (case aB=>exact hB)
      (case aF=>exact(fun _ _=>trivial))
      (case aO=>exact(zA ab.out))
      (case aS=>exact(zD hB))
      (case aL=>have:=b9.out;omega);intro dq w19 ho hb hg hat
      rw[← cd.out]at ho;replace ae:=aM (zp (zA ae.out) (zq (zA ab.out)) (by decide) hg);replace af:=aM (zp (zA af.out) (zq (zA ab.out)) (by decide) hg);replace HB:=aM hb;have cj:=aM ho;clear ab;clear ho hb hg hat
      refine hK.out _ _ ?_;clear hK K
      refine norm_ (a':=?_) ?_ ?_;rotate_left
      · show Act.put _ (some 59) _=_
        simp only[Act.put,zE,zF,zG,i64_w,i32_w]
        rfl
      refine pU 12 11 (bAr 13 8191) ?_
      refine done_ (done_of HT_.out (by kernel_rfl)) ?_
      try go_wp2
      go_roundg k1
      case measure=>have:=HK1.out;omega
      case rel=>exact⟨(ca),(wrap64 (aa+1)),eQ,H',⟨by have:=HK1.out;omega⟩,⟨zA ae.out⟩,⟨zA af.out⟩,⟨zA cj.out⟩,⟨hB⟩⟩
    · refine bdR fun⟨ag,aA,aC⟩ A20=>?_;intro H
      try dsimp only at H
      revert H;refine bdR fun⟨ah,aD,aG⟩ A21=>?_;intro H
      try dsimp only at H
      revert H;refine iR fun da=>?_;refine iR fun db=>?_;refine iR fun dc=>?_;refine iR fun dd=>?_;refine iR fun de=>?_;refine iR fun df=>?_;intro H;obtain⟨y430,hy_⟩:∃ y_:List (S62),y_=(([(⟨rd ac ag,rd l1 ag,true⟩:S62),(⟨aC,aA,false⟩:S62),(⟨rd ak ah,rd l2 ah,true⟩:S62),(⟨aG,aD,false⟩:S62)]:List (S62))):=⟨_,rfl⟩;replace H:(if ai.length+y430.length<5864062014805 then(spec_l09Body.l0 k1 l0 l1 l2 ac ak (ai++y430) (wrap64 (aa+1)))else(none))=some r:=nH;have bo:=aM hy_;clear hy_;revert H;refine ifR fun c28=>?_;intro H;have ck:=aM c28;clear c28;obtain⟨cl,hy_⟩:∃ y_:List (S62),y_=(ai++y430):=⟨_,rfl⟩;replace H:(spec_l09Body.l0 k1 l0 l1 l2 ac ak cl (wrap64 (aa+1)))=some r:=nH;have cm:=aM hy_;clear hy_;revert H;refine adR fun H'=>?_;have ay:0≤(aa:Int):=bD;have az:aa<(l0.length:Int):=bD;obtain⟨aH,bu,am,an,ao⟩:=at_T70 HR0.out aa ay az;cases bu;replace am:=cB0 HB am;replace an:=cB0 HB an;replace ao:=cB0 HB ao;replace ay:=zB ay;replace az:=zB az;have bG:0≤(aa:Int):=bD;have bH:aa<(l0.length:Int):=bD;obtain⟨cn,cK,aQ,aT,aU⟩:=at_T70 HR0.out aa bG bH;obtain rfl:aH=cn:=(by injection cK);replace aQ:=cB0 HB aQ;replace aT:=cB0 HB aT;replace aU:=cB0 HB aU;replace bG:=zB bG;replace bH:=zB bH
      try go_wp2_with (first|(refine gL (some 66) Try.func58 #[.int .i64 ((rd_T70 l0 aa).f1)] ?_;(with_reducible refine(spec_LengthCode.calls k1 ((rd_T70 l0 aa).f1) ag aA aC _ A20.out).mono ?_);rintro e w' ⟨rfl,⟨nd,rfl⟩⟩;refine⟨_,rfl,?_⟩;have bJ:0≤(aa:Int):=bD;have bK:aa<(l0.length:Int):=bD;obtain⟨cp,cL,aV,aW,aX⟩:=at_T70 HR0.out aa bJ bK;obtain rfl:aH=cp:=(by injection cL);replace aV:=cB0 HB aV;replace aW:=cB0 HB aW;replace aX:=cB0 HB aX;replace bJ:=zB bJ;replace bK:=zB bK)|(refine gL (some 76) Try.func59 #[.int .i64 ((rd_T70 l0 aa).f2)] ?_;(with_reducible refine(spec_DistCode.calls k1 ((rd_T70 l0 aa).f2) ah aD aG _ A21.out).mono ?_);rintro e w' ⟨rfl,⟨nd,rfl⟩⟩;refine⟨_,rfl,?_⟩))
      (try(rw[drewN_self wr];generalize hq_:World.drewN wr _=wr;have n0_:Aside0 (Kd.R k62 62 wr w.heap.size (fun _=>True) u11 ai):=⟨by rw[← hq_];exact(zA ab.out)⟩;have n1_:Aside0 (Kd.R (Kd.int .i64) 3 wr w.heap.size (fun k_=>some k_≠(bk:Value).ownBlock) bj ac):=⟨by rw[← hq_];exact(zA ae.out)⟩;have n2_:Aside0 (Kd.R (Kd.int .i64) 3 wr w.heap.size (fun k_=>some k_≠(bj:Value).ownBlock) bk ak):=⟨by rw[← hq_];exact(zA af.out)⟩;have n3_:Aside0 (Below w.heap.size w wr):=⟨by rw[← hq_];exact hB⟩;clear ab ae af HB hq_;have ab:=n0_;have ae:=n1_;have af:=n2_;have HB:=n3_;clear n0_ n1_ n2_ n3_));replace ae:=aM (zW ae.out);replace af:=aM (zW af.out);replace ab:=aM (zW ab.out);replace HB:=aM (zy HB.out);obtain⟨dt,du,cq⟩:=zY ae.out
      (first|subst cq|(injection cq with f1_ f2_ f3_;have f4_:=f1_.symm;have f5_:=f3_.symm;clear f1_ f2_ f3_;subst f4_;subst f5_));have bM:0≤(ag:Int):=bD;have bN:ag<(ac.length:Int):=bD;obtain⟨cr,cM,aY⟩:=zV (zJ ae.out).2.2 ag bM bN;cases cM;replace bM:=zB bM;replace bN:=zB bN;have bO:0≤(ag:Int):=bD;have bP:ag<(l1.length:Int):=bD;obtain⟨ct,cN,aq⟩:=zV HR1.out ag bO bP;have aZ:=aq;cases cN;replace aq:=cB0 HB aq;replace bO:=zB bO;replace bP:=zB bP;obtain⟨dv,dw,cu⟩:=zY af.out
      (first|subst cu|(injection cu with f1_ f2_ f3_;have f4_:=f1_.symm;have f5_:=f3_.symm;clear f1_ f2_ f3_;subst f4_;subst f5_));have bQ:0≤(ah:Int):=bD;have bR:ah<(ak.length:Int):=bD;obtain⟨cw,cO,bb⟩:=zV (zJ af.out).2.2 ah bQ bR;cases cO;replace bQ:=zB bQ;replace bR:=zB bR;have bS:0≤(ah:Int):=bD;have bT:ah<(l2.length:Int):=bD;obtain⟨cx,cP,ar⟩:=zV HR2.out ah bS bT;have be:=ar;cases cP;replace ar:=cB0 HB ar;replace bS:=zB bS;replace bT:=zB bT
      refine start_ (n:=28) (S:=fun w'=>w'.cell? (cr.add (ag).toNat)=some (.int .i64 (rd ac ag))∧w'.cell? (ct.add (ag).toNat)=some (.int .i64 (rd l1 ag))∧w'.cell? (cw.add (ah).toNat)=some (.int .i64 (rd ak ah))∧w'.cell? (cx.add (ah).toNat)=some (.int .i64 (rd l2 ah))) (ds:=[26]) (bAr 28 0) (by kernel_rfl) rfl rfl ⟨aY,(cB HB aZ),bb,(cB HB be)⟩ (fun hHeld=>?_);refine with_tabW spec_l09Body.tab12 spec_l09Body.bits12 (fun HT_ HW_=>?_)
      generalize wr.drew=w29 at ae af ab HB aY aq bb ar hHeld ⊢;refine pU 0 80 (bAr 28 1) ?_;refine pU 1 81 (bAr 28 3) ?_;refine pU 2 82 (bAr 28 7) ?_;refine pU 3 83 (bAr 28 15) ?_;refine pU 5 85 (bAr 28 47) ?_;refine pU 6 86 (bAr 28 111) ?_;refine pU 7 87 (bAr 28 239) ?_;refine pU 10 90 (bAr 28 1263) ?_;refine pU 11 91 (bAr 28 3311) ?_;refine pU 12 92 (bAr 28 7407) ?_;refine pU 13 93 (bAr 28 15599) ?_;refine pU 14 94 (bAr 28 31983) ?_;refine pU 15 95 (bAr 28 64751) ?_;refine pU 17 97 (bAr 28 195823) ?_;refine pU 18 98 (bAr 28 457967) ?_;refine pU 19 99 (bAr 28 982255) ?_;refine pU 22 102 (bAr 28 5176559) ?_;refine pU 23 103 (bAr 28 13565167) ?_;refine pU 24 104 (bAr 28 30342383) ?_
      refine tK 4 84 (bAr 28 30342399) ?_
      refine tK 8 88 (bAr 28 30342655) ?_;refine pU 9 89 (bAr 28 30343167) ?_
      refine tK 16 96 (bAr 28 30408703) ?_
      refine tK 20 100 (bAr 28 31457279) ?_;refine pU 21 101 (bAr 28 33554431) ?_
      refine one_ (i:=25) (N:=some 105) (bAr 28 67108863) rfl rfl (one_of HT_.out (by kernel_rfl)) (by decide) (fun K hK=>?_)
      refine Kd.R_lit_step k62 _ 62 ?hg (N:=105) ?hd (xs:=([(⟨rd ac ag,rd l1 ag,true⟩:S62),(⟨aC,aA,false⟩:S62),(⟨rd ak ah,rd l2 ah,true⟩:S62),(⟨aG,aD,false⟩:S62)]:List (S62))) (inner:=[.int .i64 (rd ac ag),.int .i64 (rd l1 ag),.bool true,.int .i64 aC,.int .i64 aA,.bool false,.int .i64 (rd ak ah),.int .i64 (rd l2 ah),.bool true,.int .i64 aG,.int .i64 aD,.bool false]) (ok:=fun _=>True) (okp:=fun _=>True) ?hr ?hp (fun _ hk=>hk) trivial (zQ _ _) (zI _) (by simp) ?_;(case hd=>rfl);(case hg=>rfl);(case hr=>first|(go_simp;done)|(go_simp;rfl));(case hp=>exact(Reps.c3 (show Kd.M k62 _ _ _ (⟨rd ac ag,rd l1 ag,true⟩:S62) [.int .i64 (rd ac ag),.int .i64 (rd l1 ag),.bool true]from(k62_mkM _ _ _ (⟨rd ac ag,rd l1 ag,true⟩:S62))) (Reps.c3 (show Kd.M k62 _ _ _ (⟨aC,aA,false⟩:S62) [.int .i64 aC,.int .i64 aA,.bool false]from(k62_mkM _ _ _ (⟨aC,aA,false⟩:S62))) (Reps.c3 (show Kd.M k62 _ _ _ (⟨rd ak ah,rd l2 ah,true⟩:S62) [.int .i64 (rd ak ah),.int .i64 (rd l2 ah),.bool true]from(k62_mkM _ _ _ (⟨rd ak ah,rd l2 ah,true⟩:S62))) (Reps.c3 (show Kd.M k62 _ _ _ (⟨aG,aD,false⟩:S62) [.int .i64 aG,.int .i64 aD,.bool false]from(k62_mkM _ _ _ (⟨aG,aD,false⟩:S62))) (Reps.none _ _))))));intro dx w32 bf hb hg_ hnew_;have HS0_:=(hb.cell (World.block_lt_of_cell? _ _ (hHeld.1))).trans (hHeld.1);have HS2_:=(hb.cell (World.block_lt_of_cell? _ _ (hHeld.2.2.1))).trans (hHeld.2.2.1);clear hg_ hnew_
      (first|rw[← bo.out]at bf|(simp only[Int.reduceToNat]at bf;rw[← bo.out]at bf));replace ae:=Kd.wR ae hb;replace af:=Kd.wR af hb;have ax:=aM (zb (zi bf (zX (zA ab.out))) (zD hB));replace ab:=aM (zZ (zA ab.out) (ze bf) hb);replace HB:=hS hb;clear hb bf;obtain⟨cQ,cR,cy⟩:=zY ax.out
      (first|subst cy|(injection cy with f1_ f2_ f3_;have f4_:=f1_.symm;have f5_:=f3_.symm;clear f1_ f2_ f3_;subst f4_;subst f5_))
      refine hK.out _ _ ⟨HS0_,(cB HB aZ),HS2_,(cB HB be)⟩ (fun hHeld=>?_);clear hK K
      refine norm_ (a':=?_) ?_ ?_;rotate_left
      · show Act.put _ (some 105) _=_
        simp only[Act.put,zE,zF,zG,i64_w,i32_w]
        rfl
      refine last_ (i:=26) (N:=some 106) (bAr 28 134217727) rfl rfl (one_of HT_.out (by kernel_rfl)) (by decide) (fun K hK=>?_)
      refine Kd.R_append_rows_step k62 (w0:=w) w.heap.size (by rfl) (.tmp 80) (.tmp 105) 63 62 (.agg #[(.int .i64 0),(.int .i64 0),(.bool false)]) 24 rfl Try.underlying63 info62 rfl (by decide) (by omega) u11 ai y430 _ _ _ (fun k_=>some k_≠(.slice cQ y430.length cR:Value).ownBlock) (fun _=>False) rfl rfl ?aO ?aR (fun _ _ h=>h) (fun _ h=>h.elim) ?aF ?aB ?aS ?aL ?_
      (case aR=>repeat (first|exact(zJ ax.out).2.2|(with_reducible refine z5 ?_ _)|(with_reducible refine z4 ?_ _)|(with_reducible refine z6 ?_)))
      (case aB=>exact hB)
      (case aF=>exact(fun k_ hk=>zm (zX (zA ax.out)) k_ hk))
      (case aO=>exact(zA (zH ab.out (fun _ hk=>hk.2))))
      (case aS=>exact(zD hB))
      (case aL=>have:=ck.out;omega);intro dy w34 ho hb hg hat
      rw[← cm.out]at ho;replace ae:=aM (zp (zA ae.out) (zq (zA ab.out)) (by decide) hg);replace af:=aM (zp (zA af.out) (zq (zA ab.out)) (by decide) hg);replace ax:=aM (Kd.R_after (ok:=(fun _=>True)) (zA ax.out) hg hat);replace HB:=aM hb;have cz:=aM ho;clear ab;clear ho hb hg hat
      refine hK.out _ _ ?_;clear hK K
      refine norm_ (a':=?_) ?_ ?_;rotate_left
      · show Act.put _ (some 106) _=_
        simp only[Act.put,zE,zF,zG,i64_w,i32_w]
        rfl
      refine pU 27 11 (bAr 28 268435455) ?_
      refine done_ (done_of HT_.out (by kernel_rfl)) ?_
      try go_wp2
      go_roundg k1
      case measure=>have:=HK1.out;omega
      case rel=>exact⟨(cl),(wrap64 (aa+1)),eQ,H',⟨by have:=HK1.out;omega⟩,⟨zA ae.out⟩,⟨zA af.out⟩,⟨zA (zH cz.out (fun _ hk=>trivial))⟩,⟨hB⟩⟩
  · refine ifR fun c36=>?_;intro H;have dg:=zN c36;have dh:decide (256<ac.length)=true:=zN (by omega);clear c36;revert H;refine ifR fun c37=>?_;intro H;have di:=zN c37;have dl:decide (256<l1.length)=true:=zN (by omega);clear c37;revert H;refine ifR fun c38=>?_;intro H;have cA:=aM c38;clear c38;obtain⟨cS,hy_⟩:∃ y_:List (S62),y_=(ai++[(⟨rd ac 256,rd l1 256,true⟩:S62)]):=⟨_,rfl⟩;replace H:(some cS)=some r:=nH;have cC:=aM hy_;clear hy_;obtain rfl:=zC H
    try go_wp2
    replace ae:=aM (zW ae.out);replace af:=aM (zW af.out);replace ab:=aM (zW ab.out);replace HB:=aM (zy HB.out);obtain⟨dz,dA,cD⟩:=zY ae.out
    (first|subst cD|(injection cD with f1_ f2_ f3_;have f4_:=f1_.symm;have f5_:=f3_.symm;clear f1_ f2_ f3_;subst f4_;subst f5_));have bU:0≤(256:Int):=(by omega);have bV:256<(ac.length:Int):=bD;obtain⟨bq,cT,au⟩:=zV (zJ ae.out).2.2 256 bU bV;cases cT
    (try simp only[show(256:Int).toNat=256 from rfl,Nat.reduceMul,Nat.reduceEqDiff,Go.Addr.add,↓reduceIte]at au);have qi406:(256<ac.length)=True:=zB (by omega)
    (try rw[show((256:Int)).toNat=256 from rfl]at au);replace bU:=zB bU;replace bV:=zB bV;have bX:0≤(256:Int):=(by omega);have bY:256<(l1.length:Int):=bD;obtain⟨br,cU,aj⟩:=zV HR1.out 256 bX bY;have av:=aj
    (try rw[show((256:Int)).toNat=256 from rfl]at av)
    (try rw[show 256*1=256 from rfl]at av)
    (try simp only[Nat.reduceMul,Nat.reduceEqDiff,Go.Addr.add,↓reduceIte]at av);cases cU
    (try simp only[show(256:Int).toNat=256 from rfl,Nat.reduceMul,Nat.reduceEqDiff,Go.Addr.add,↓reduceIte]at aj);have qi407:(256<l1.length)=True:=zB (by omega)
    (try rw[show((256:Int)).toNat=256 from rfl]at aj);replace aj:=cB0 HB aj;replace bX:=zB bX;replace bY:=zB bY
    refine start_ (n:=11) (S:=fun w'=>w'.cell? ⟨bq.block,bq.off+256,none⟩=some (.int .i64 (rd ac 256))∧w'.cell? ⟨br.block,br.off+256,none⟩=some (.int .i64 (rd l1 256))) (ds:=[8,9]) (bAr 11 0) (by kernel_rfl) rfl rfl ⟨au,(cB HB av)⟩ (fun hHeld=>?_);refine with_tabW spec_l09Body.tab13 spec_l09Body.bits13 (fun HT_ HW_=>?_)
    generalize wr.drew=w39 at ae af ab HB au aj hHeld ⊢;refine pU 0 107 (bAr 11 1) ?_;refine pU 1 108 (bAr 11 3) ?_;refine pU 2 109 (bAr 11 7) ?_;refine pU 4 111 (bAr 11 23) ?_;refine pU 5 112 (bAr 11 55) ?_
    refine tK 3 110 (bAr 11 63) ?_
    refine tK 6 113 (bAr 11 127) ?_;refine pU 7 114 (bAr 11 255) ?_
    refine last_ (i:=8) (N:=some 115) (bAr 11 511) rfl rfl (one_of HT_.out (by kernel_rfl)) (by decide) (fun K hK=>?_)
    refine value_ (w1:=?_) (v:=?_) (by rfl) rfl ?_ ?_;rotate_left 2
    · go_simp
      constructor
      · rfl
      · rfl
    refine hK.out _ _ ?_;clear hK K
    refine norm_ (a':=?_) ?_ ?_;rotate_left
    · show Act.put _ (some 115) _=_
      simp only[Act.put,zE,zF,zG,i64_w,i32_w]
      rfl
    refine last_ (i:=9) (N:=some 116) (bAr 11 1023) rfl rfl (one_of HT_.out (by kernel_rfl)) (by decide) (fun K hK=>?_)
    refine Kd.R_append_step k62 (w0:=w) w.heap.size (by rfl) (.tmp 107) (.tmp 115) 63 62 (.agg #[(.int .i64 0),(.int .i64 0),(.bool false)]) 24 rfl Try.underlying63 info62 rfl (by decide) (by omega) u11 ai (⟨rd ac 256,rd l1 256,true⟩:S62) [.int .i64 (rd ac 256),.int .i64 (rd l1 256),.bool true] (fun _=>True) (fun _=>False) rfl rfl ?aP (fun _ hk=>hk.elim) ?aF ?aO ?aB ?aS ?aL ?_
    (case aP=>exact k62_mkM _ _ _ (⟨rd ac 256,rd l1 256,true⟩:S62))
    (case aB=>exact hB)
    (case aF=>exact(fun _ _=>trivial))
    (case aO=>exact(zA ab.out))
    (case aS=>exact(zD hB))
    (case aL=>have:=cA.out;omega);intro dB w41 ho hb hg hat
    rw[← cC.out]at ho;replace ae:=aM (zp (zA ae.out) (zq (zA ab.out)) (by decide) hg);replace af:=aM (zp (zA af.out) (zq (zA ab.out)) (by decide) hg);replace HB:=aM hb;have cE:=aM ho;clear ab;clear ho hb hg hat
    refine hK.out _ _ ?_;clear hK K
    refine norm_ (a':=?_) ?_ ?_;rotate_left
    · show Act.put _ (some 116) _=_
      simp only[Act.put,zE,zF,zG,i64_w,i32_w]
      rfl
    refine pU 10 6 (bAr 11 2047) ?_
    refine done_ (done_of HT_.out (by kernel_rfl)) ?_
    try go_wp2
    go_ret;exact⟨_,eE,zA cE.out,hB⟩
end Go.Proofs.Ytldiiicbgdfapaa.PFnExactWovenBlock
