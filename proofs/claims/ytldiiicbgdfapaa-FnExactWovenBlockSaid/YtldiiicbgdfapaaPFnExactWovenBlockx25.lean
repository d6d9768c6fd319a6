/- Walks of functions that the law reaches: each call comes to what the Lean function of its name tells. -/
import Derived.Test.YtldiiicbgdfapaaPFnExactWovenBlockx13
import Derived.Test.YtldiiicbgdfapaaPFnExactWovenBlockx24
namespace Go.Proofs.Ytldiiicbgdfapaa.PFnExactWovenBlock
open Go.RowKit Go.Proofs.YtldiiicbgdfapaaW.PrintWords Go.Proofs.YtldiiicbgdfapaaW.PrintLast Go.Proofs.YtldiiicbgdfapaaW.PrintMore
attribute [local go_sem] max2_int min2_int max_two min_two max_three min_three max_four min_four
set_option linter.unusedVariables false
set_option maxHeartbeats 8000000
set_option maxRecDepth 100000
set_option linter.unusedSimpArgs false
def laws_eqToken.f (a0_0:Int) (a0_1:Int) (a0_2:Int) (a1_0:Int) (a1_1:Int) (a1_2:Int):Option (Bool):=if a0_0=a1_0 then(if a0_1=a1_1 then(if a0_2=a1_2 then(some true)else(some false))else(some false))else(some false)
theorem laws_eqToken.calls (a0_0:Int) (a0_1:Int) (a0_2:Int) (a1_0:Int) (a1_1:Int) (a1_2:Int) (r:Bool) (w:World) (h:laws_eqToken.f a0_0 a0_1 a0_2 a1_0 a1_1 a1_2=some r) :
 Calls Try.prog 47 #[.agg #[.int .i64 a0_0,.int .i64 a0_1,.int .i64 a0_2],.agg #[.int .i64 a1_0,.int .i64 a1_1,.int .i64 a1_2]] w fun e w'=>e = .returned (.bool r)∧Below w.heap.size w w':=by
 have hu70:=Try.underlying70;have HB:=aM (zQ w.heap.size w);have H:(if a0_0=a1_0 then(if a0_1=a1_1 then(if a0_2=a1_2 then(some true)else(some false))else(some false))else(some false))=some r:=h;clear h;revert H
 refine iQ (fun bA bF=>?_) (fun c3 bA bF=>?_)
 · intro H;revert H
   refine iQ (fun bN cd=>?_) (fun c4 bN cd=>?_)
   · intro H;revert H
     refine iQ (fun bn ce=>?_) (fun c5 bn ce=>?_)
     · intro H;obtain rfl:=zC H;go_enter Try.func47,Try.ntmps47
       go_wp2_with (first|(refine bE 2 #[.int .i64 a0_0,.int .i64 a0_1,.int .i64 a0_2] 70 ?_;intro bo hg w6 hbox hb;have ae:=aM hbox;have aN:=aM (sZ hg);have bq:=aN;replace HB:=hS hb;clear hb hbox hg)|(refine bE 3 #[.int .i64 a1_0,.int .i64 a1_1,.int .i64 a1_2] 70 ?_;intro br hg w7 hbox hb;have aQ:=aM hbox;have aT:=aM (sZ hg);have bu:=aT;replace HB:=hS hb;have ah:=aM (nL ae hg);have ai:=aM (nG ae hg);replace ae:=bW ae hb;clear hb hbox hg;have db:=ah.out;have dc:=ai.out;have hz9:=bz3 ae;have dd:=bz3 aQ));go_ret;exact⟨eE,hB⟩
     · intro H;obtain rfl:=zC H;go_enter Try.func47,Try.ntmps47
       go_wp2_with (first|(refine bE 2 #[.int .i64 a0_0,.int .i64 a0_1,.int .i64 a0_2] 70 ?_;intro bo hg w11 hbox hb;have ae:=aM hbox;have aN:=aM (sZ hg);have bq:=aN;replace HB:=hS hb;clear hb hbox hg)|(refine bE 3 #[.int .i64 a1_0,.int .i64 a1_1,.int .i64 a1_2] 70 ?_;intro br hg w12 hbox hb;have aQ:=aM hbox;have aT:=aM (sZ hg);have bu:=aT;replace HB:=hS hb;have ah:=aM (nL ae hg);have ai:=aM (nG ae hg);replace ae:=bW ae hb;clear hb hbox hg;have cz:=ah.out;have cA:=ai.out;have de:=bz3 ae;have df:=bz3 aQ));go_ret;exact⟨eE,hB⟩
   · intro H;obtain rfl:=zC H;go_enter Try.func47,Try.ntmps47
     go_wp2_with (first|(refine bE 2 #[.int .i64 a0_0,.int .i64 a0_1,.int .i64 a0_2] 70 ?_;intro bo hg w16 hbox hb;have ae:=aM hbox;have aN:=aM (sZ hg);have bq:=aN;replace HB:=hS hb;clear hb hbox hg)|(refine bE 3 #[.int .i64 a1_0,.int .i64 a1_1,.int .i64 a1_2] 70 ?_;intro br hg w17 hbox hb;have aQ:=aM hbox;have aT:=aM (sZ hg);have bu:=aT;replace HB:=hS hb;have ah:=aM (nL ae hg);have ai:=aM (nG ae hg);replace ae:=bW ae hb;clear hb hbox hg;have cC:=ah.out;have cD:=ai.out;have dg:=bz3 ae;have dh:=bz3 aQ));go_ret;exact⟨eE,hB⟩
 · intro H;obtain rfl:=zC H;go_enter Try.func47,Try.ntmps47
   go_wp2_with (first|(refine bE 2 #[.int .i64 a0_0,.int .i64 a0_1,.int .i64 a0_2] 70 ?_;intro bo hg w21 hbox hb;have ae:=aM hbox;have aN:=aM (sZ hg);have bq:=aN;replace HB:=hS hb;clear hb hbox hg)|(refine bE 3 #[.int .i64 a1_0,.int .i64 a1_1,.int .i64 a1_2] 70 ?_;intro br hg w22 hbox hb;have aQ:=aM hbox;have aT:=aM (sZ hg);have bu:=aT;replace HB:=hS hb;have ah:=aM (nL ae hg);have ai:=aM (nG ae hg);replace ae:=bW ae hb;clear hb hbox hg;have cE:=ah.out;have cF:=ai.out;have bX:=bz3 ae;have di:=bz3 aQ));go_ret;exact⟨eE,hB⟩
def laws_eqTokenS.l0:Nat→List (S70)→List (S70)→Int→Option (Bool)
  | 0,_,_,_=>none
  | k+1,x0,x1,x5=>if x5<(x0.length:Int)then(if 0≤x5 then(if x5<(x1.length:Int)then((laws_eqToken.f ((rd_T70 x0 x5).f0) ((rd_T70 x0 x5).f1) ((rd_T70 x0 x5).f2) ((rd_T70 x1 x5).f0) ((rd_T70 x1 x5).f1) ((rd_T70 x1 x5).f2)).bind fun t824=>(if t824=true then(laws_eqTokenS.l0 k x0 x1 (wrap64 (x5+1)))else(some false)))else(none))else(none))else(some true)
def laws_eqTokenS.f (k:Nat) (l0:List (S70)) (l1:List (S70)):Option (Bool):=if(l0.length:Int)=(l1.length:Int)then(laws_eqTokenS.l0 k l0 l1 0)else(some false)
def laws_eqTokenS.T6:Bool×List (List Nat×List Nat):=(true,[([],[]),([],[]),([0,1],[0,1]),([2],[2]),([],[]),([],[]),([4,5],[4,5]),([6],[6]),([3,7],[3,7]),([8],[8])])
def laws_eqTokenS.B6:List Nat:=[0,0,3,7,0,0,48,112,255,511]
theorem laws_eqTokenS.tab6:rtab .any (opsOf Try.f12 6)=laws_eqTokenS.T6:=by kernel_rfl
theorem laws_eqTokenS.bits6:waitsOk laws_eqTokenS.T6.2 laws_eqTokenS.B6=true:=by kernel_rfl
theorem laws_eqTokenS.calls (k:Nat) (A0:Option Addr) (c0:Nat) (l0:List (S70)) (A1:Option Addr) (c1:Nat) (l1:List (S70)) (r:Bool) (w:World) (hr0:Kd.C k70 w A0 l0.length l0) (hc0:l0.length≤c0) (hr1:Kd.C k70 w A1 l1.length l1) (hc1:l1.length≤c1) (h:laws_eqTokenS.f k l0 l1=some r) :
 Calls Try.prog 12 #[.slice A0 l0.length c0,.slice A1 l1.length c1] w fun e w'=>e = .returned (.bool r)∧Below w.heap.size w w':=by
 have hu70:=Try.underlying70;have HR0:=aM hr0;have HC0:=aM hc0;clear hr0 hc0;have HR1:=aM hr1;have HC1:=aM hc1;clear hr1 hc1;have HB:=aM (zQ w.heap.size w);have H:(if(l0.length:Int)=(l1.length:Int)then(laws_eqTokenS.l0 k l0 l1 0)else(some false))=some r:=h;clear h;revert H
 refine ifB (fun c3=>?_) (fun c3=>?_)
 · intro H;have bA:=zT.mpr c3;have bF:=zP.mpr c3;have bY:(l0.length == l1.length)=true:=by first|simpa using c3|(simp at c3 ⊢;omega)
   clear c3;revert H;refine adR fun H'=>?_;go_enter Try.func12,Try.ntmps12;go_wp2
   go_loopg [5] k (fun kq v5 w' => ∃ (aa:Int),v5 = .int .i64 aa∧Aside0 (laws_eqTokenS.l0 kq l0 l1 aa=some r)∧Aside0 (kq≤k)∧Aside0 (Below w.heap.size w w'))
   case atStart=>exact⟨(0),eQ,H',⟨zI _⟩,⟨hB⟩⟩
   case round =>
    clear H';(try clear c1);(try clear p2);(try clear c3);(try clear bA);(try clear bF);(try clear bY);obtain⟨aa,rfl,HA,HK1,HB⟩:=hrel;rcases gk with _|k1
    · exact absurd HA.out (by simp[laws_eqTokenS.l0])
    revert HA;refine aoR ?_;intro H;simp only[laws_eqTokenS.l0]at H;revert H
    refine iB (fun bN=>?_) (fun bN=>?_)
    · refine iR fun bn=>?_;refine iR fun dl=>?_;refine bdR fun t824 A7=>?_
      refine bB (fun c8=>?_) (fun c8=>?_)
      · intro H;subst c8;revert H;refine adR fun H'=>?_
        try go_wp2
        replace HB:=aM (zy HB.out);have bg:0≤(aa:Int):=bD;have bh:aa<(l0.length:Int):=bD;obtain⟨ar,bO,ak,am,an⟩:=at_T70 HR0.out aa bg bh;have av:=an;have aw:=am;have ax:=ak;cases bO;replace ak:=cB0 HB ak;replace am:=cB0 HB am;replace an:=cB0 HB an;replace bg:=zB bg;replace bh:=zB bh;have bi:0≤(aa:Int):=bD;have bj:aa<(l1.length:Int):=bD;obtain⟨au,bP,ao,ap,aq⟩:=at_T70 HR1.out aa bi bj;have ay:=aq;have az:=ap;have aA:=ao;cases bP;replace ao:=cB0 HB ao;replace ap:=cB0 HB ap;replace aq:=cB0 HB aq;replace bi:=zB bi;replace bj:=zB bj
        refine start_ (n:=10) (S:=fun w'=>w'.cell? (ar.add ((aa).toNat*3))=some (.int .i64 ((rd_T70 l0 aa).f0))∧w'.cell? ⟨(ar.add ((aa).toNat*3)).block,(ar.add ((aa).toNat*3)).off+1,none⟩=some (.int .i64 ((rd_T70 l0 aa).f1))∧w'.cell? ⟨(ar.add ((aa).toNat*3)).block,(ar.add ((aa).toNat*3)).off+2,none⟩=some (.int .i64 ((rd_T70 l0 aa).f2))∧w'.cell? (au.add ((aa).toNat*3))=some (.int .i64 ((rd_T70 l1 aa).f0))∧w'.cell? ⟨(au.add ((aa).toNat*3)).block,(au.add ((aa).toNat*3)).off+1,none⟩=some (.int .i64 ((rd_T70 l1 aa).f1))∧w'.cell? ⟨(au.add ((aa).toNat*3)).block,(au.add ((aa).toNat*3)).off+2,none⟩=some (.int .i64 ((rd_T70 l1 aa).f2))) (ds:=[]) (bAr 10 0) (by kernel_rfl) rfl rfl ⟨(cB HB ax),(cB HB aw),(cB HB av),(cB HB aA),(cB HB az),(cB HB ay)⟩ (fun hHeld=>?_);refine with_tabW laws_eqTokenS.tab6 laws_eqTokenS.bits6 (fun HT_ HW_=>?_)
        generalize wr.drew=w9 at HB ak am an ao ap aq hHeld ⊢;refine pU 0 17 (bAr 10 1) ?_;refine pU 1 18 (bAr 10 3) ?_;refine pU 2 19 (bAr 10 7) ?_;refine pU 4 21 (bAr 10 23) ?_;refine pU 5 22 (bAr 10 55) ?_;refine pU 6 23 (bAr 10 119) ?_
        refine tK 3 20 (bAr 10 127) ?_
        refine tK 7 24 (bAr 10 255) ?_
        refine one_ (i:=8) (N:=some 25) (bAr 10 511) rfl rfl (one_of HT_.out (by kernel_rfl)) (by decide) (fun K hK=>?_)
        refine goes_ Try.func47 (by kernel_rfl) rfl #[.agg #[.int .i64 ((rd_T70 l0 aa).f0),.int .i64 ((rd_T70 l0 aa).f1),.int .i64 ((rd_T70 l0 aa).f2)],.agg #[.int .i64 ((rd_T70 l1 aa).f0),.int .i64 ((rd_T70 l1 aa).f1),.int .i64 ((rd_T70 l1 aa).f2)]] (by rfl) rfl rfl (by(try simp only[zg,List.map_cons,List.map_nil]);first|done|rfl|(simp only[zn,zd];rfl)) ?_
        with_reducible refine(laws_eqToken.calls ((rd_T70 l0 aa).f0) ((rd_T70 l0 aa).f1) ((rd_T70 l0 aa).f2) ((rd_T70 l1 aa).f0) ((rd_T70 l1 aa).f1) ((rd_T70 l1 aa).f2) true _ A7.out).mono ?_
        rintro e w10 ⟨rfl,hb⟩
        refine⟨_,rfl,?_⟩;replace HB:=hS hb
        refine hK.out _ _ ⟨(cB HB ax),(cB HB aw),(cB HB av),(cB HB aA),(cB HB az),(cB HB ay)⟩ (fun hHeld=>?_);clear hK K
        refine norm_ (a':=?_) ?_ ?_;rotate_left
        · show Act.put _ (some 25) _=_
          simp only[Act.put,zE,zF,zG,i64_w,i32_w]
          rfl
        refine pU 9 26 (bAr 10 1023) ?_
        refine done_ (done_of HT_.out (by kernel_rfl)) ?_
        try go_wp2
        go_roundg k1
        case measure=>have:=HK1.out;omega
        case rel=>exact⟨(wrap64 (aa+1)),eQ,H',⟨by have:=HK1.out;omega⟩,⟨hB⟩⟩
      · intro H;subst c8;obtain rfl:=zC H
        try go_wp2
        replace HB:=aM (zy HB.out);have bg:0≤(aa:Int):=bD;have bh:aa<(l0.length:Int):=bD;obtain⟨ar,bO,ak,am,an⟩:=at_T70 HR0.out aa bg bh;have av:=an;have aw:=am;have ax:=ak;cases bO;replace ak:=cB0 HB ak;replace am:=cB0 HB am;replace an:=cB0 HB an;replace bg:=zB bg;replace bh:=zB bh;have bi:0≤(aa:Int):=bD;have bj:aa<(l1.length:Int):=bD;obtain⟨au,bP,ao,ap,aq⟩:=at_T70 HR1.out aa bi bj;have ay:=aq;have az:=ap;have aA:=ao;cases bP;replace ao:=cB0 HB ao;replace ap:=cB0 HB ap;replace aq:=cB0 HB aq;replace bi:=zB bi;replace bj:=zB bj
        refine start_ (n:=10) (S:=fun w'=>w'.cell? (ar.add ((aa).toNat*3))=some (.int .i64 ((rd_T70 l0 aa).f0))∧w'.cell? ⟨(ar.add ((aa).toNat*3)).block,(ar.add ((aa).toNat*3)).off+1,none⟩=some (.int .i64 ((rd_T70 l0 aa).f1))∧w'.cell? ⟨(ar.add ((aa).toNat*3)).block,(ar.add ((aa).toNat*3)).off+2,none⟩=some (.int .i64 ((rd_T70 l0 aa).f2))∧w'.cell? (au.add ((aa).toNat*3))=some (.int .i64 ((rd_T70 l1 aa).f0))∧w'.cell? ⟨(au.add ((aa).toNat*3)).block,(au.add ((aa).toNat*3)).off+1,none⟩=some (.int .i64 ((rd_T70 l1 aa).f1))∧w'.cell? ⟨(au.add ((aa).toNat*3)).block,(au.add ((aa).toNat*3)).off+2,none⟩=some (.int .i64 ((rd_T70 l1 aa).f2))) (ds:=[]) (bAr 10 0) (by kernel_rfl) rfl rfl ⟨(cB HB ax),(cB HB aw),(cB HB av),(cB HB aA),(cB HB az),(cB HB ay)⟩ (fun hHeld=>?_);refine with_tabW laws_eqTokenS.tab6 laws_eqTokenS.bits6 (fun HT_ HW_=>?_)
        generalize wr.drew=w11 at HB ak am an ao ap aq hHeld ⊢;refine pU 0 17 (bAr 10 1) ?_;refine pU 1 18 (bAr 10 3) ?_;refine pU 2 19 (bAr 10 7) ?_;refine pU 4 21 (bAr 10 23) ?_;refine pU 5 22 (bAr 10 55) ?_;refine pU 6 23 (bAr 10 119) ?_
        refine tK 3 20 (bAr 10 127) ?_
        refine tK 7 24 (bAr 10 255) ?_
        refine one_ (i:=8) (N:=some 25) (bAr 10 511) rfl rfl (one_of HT_.out (by kernel_rfl)) (by decide) (fun K hK=>?_)
        refine goes_ Try.func47 (by kernel_rfl) rfl #[.agg #[.int .i64 ((rd_T70 l0 aa).f0),.int .i64 ((rd_T70 l0 aa).f1),.int .i64 ((rd_T70 l0 aa).f2)],.agg #[.int .i64 ((rd_T70 l1 aa).f0),.int .i64 ((rd_T70 l1 aa).f1),.int .i64 ((rd_T70 l1 aa).f2)]] (by rfl) rfl rfl (by(try simp only[zg,List.map_cons,List.map_nil]);first|done|rfl|(simp only[zn,zd];rfl)) ?_
        with_reducible refine(laws_eqToken.calls ((rd_T70 l0 aa).f0) ((rd_T70 l0 aa).f1) ((rd_T70 l0 aa).f2) ((rd_T70 l1 aa).f0) ((rd_T70 l1 aa).f1) ((rd_T70 l1 aa).f2) false _ A7.out).mono ?_
        rintro e w12 ⟨rfl,hb⟩
        refine⟨_,rfl,?_⟩;replace HB:=hS hb
        refine hK.out _ _ ⟨(cB HB ax),(cB HB aw),(cB HB av),(cB HB aA),(cB HB az),(cB HB ay)⟩ (fun hHeld=>?_);clear hK K
        refine norm_ (a':=?_) ?_ ?_;rotate_left
        · show Act.put _ (some 25) _=_
          simp only[Act.put,zE,zF,zG,i64_w,i32_w]
          rfl
        refine pU 9 26 (bAr 10 1023) ?_
        refine done_ (done_of HT_.out (by kernel_rfl)) ?_
        try go_wp2
        go_ret;exact⟨eE,hB⟩
    · intro H;obtain rfl:=zC H;go_wp2;go_ret;exact⟨eE,hB⟩
 · intro H;have bA:=zK.mpr c3;have bF:=zU.mpr c3;have bY:(l0.length == l1.length)=false:=by first|simpa using c3|(simp at c3 ⊢;omega)
   obtain rfl:=zC H;go_enter Try.func12,Try.ntmps12;go_wp2;go_ret;exact⟨eE,hB⟩
def laws_FnExactWovenBlock.j0:Nat→List (S72)→List (S70)→Bool→Option (Bool)
  | 0,_,_,_=>none
  | k+1,x1,x10,x50=>if x50=true then(some false)else((laws_toTokenS.f k x1).bind fun t847=>((laws_eqTokenS.f k x10 t847).bind fun t850=>(if t850=true then(some true)else(some false))))
def laws_FnExactWovenBlock.f (k:Nat) (a0_0:ByteArray) (a0_1:Int) (l1:List (S72)) (a2:Bool):Option (Bool):=(laws_szOut.f a0_0 a0_1 1048576).bind fun aW=>(if aW<0 then(some true)else((laws_szTokenS.f l1 aW).bind fun bG=>(if bG<0 then(some true)else((laws_toOut.f a0_0 a0_1).bind fun bH=>((laws_toTokenS.f k l1).bind fun bv=>((spec_WovenBlock.f k bH.1 bH.2 bv a2).bind fun bw=>((laws_toTokenS.f k l1).bind fun aK=>((laws_toOut.f a0_0 a0_1).bind fun bJ=>((impl_WovenBlock.f k bJ.1 bJ.2 aK a2).bind fun bx=>((laws_eqOut.f bx.1 bx.2.1 bw.1 bw.2.1).bind fun bZ=>(if bZ=true then(laws_FnExactWovenBlock.j0 k l1 aK (bx.2.2 != bw.2.2))else(laws_FnExactWovenBlock.j0 k l1 aK true))))))))))))
theorem laws_FnExactWovenBlock.calls (k:Nat) (a0_0:ByteArray) (a0_1:Int) (A1:Option Addr) (c1:Nat) (l1:List (S72)) (a2:Bool) (r:Bool) (w:World) (hr1:Kd.C k72 w A1 l1.length l1) (hc1:l1.length≤c1) (hrt:r=true) (h:laws_FnExactWovenBlock.f k a0_0 a0_1 l1 a2=some r) :
 Calls Try.prog 3 #[.agg #[.string a0_0,.int .i64 a0_1],.slice A1 l1.length c1,.bool a2] w fun e w'=>e = .returned (.bool r)∧Below w.heap.size w w':=by
 have hu23:=Try.underlying23;have hu27:=Try.underlying27;have HR1:=aM hr1;have HC1:=aM hc1;clear hr1 hc1;have HB:=aM (zQ w.heap.size w);unfold laws_FnExactWovenBlock.f at h;have H:=h;clear h;revert H;refine bdR fun aW A4=>?_
 refine iB (fun bn=>?_) (fun bn=>?_)
 · intro H;clear hrt;obtain rfl:=zC H;go_enter Try.func3,Try.ntmps3
   go_wp2_with (first|(refine bE 3 #[.string a0_0,.int .i64 a0_1] 23 ?_;intro aU hg w6 hbox hb;have ab:=aM hbox;have aZ:=aM (sZ hg);have bK:=aZ;replace HB:=hS hb;clear hb hbox hg;have hz7:=bz2 ab)|(refine gL (some 15) Try.func5 #[.agg #[.string a0_0,.int .i64 a0_1],.int .i64 1048576] ?_;(with_reducible refine(laws_szOut.calls a0_0 a0_1 1048576 aW _ A4.out).mono ?_);rintro e w8 ⟨rfl,hb⟩;refine⟨_,rfl,?_⟩;replace ab:=bW ab hb;replace HB:=hS hb;clear hb));go_ret;exact⟨eE,hB⟩
 · refine bdR fun bG A9=>?_
   refine iB (fun bM=>?_) (fun bM=>?_)
   · intro H;clear hrt;obtain rfl:=zC H;go_enter Try.func3,Try.ntmps3
     go_wp2_with (first|(refine bE 3 #[.string a0_0,.int .i64 a0_1] 23 ?_;intro aU hg w11 hbox hb;have ab:=aM hbox;have aZ:=aM (sZ hg);have bK:=aZ;replace HB:=hS hb;clear hb hbox hg;have cg:=bz2 ab)|(refine gL (some 15) Try.func5 #[.agg #[.string a0_0,.int .i64 a0_1],.int .i64 1048576] ?_;(with_reducible refine(laws_szOut.calls a0_0 a0_1 1048576 aW _ A4.out).mono ?_);rintro e w13 ⟨rfl,hb⟩;refine⟨_,rfl,?_⟩;replace ab:=bW ab hb;replace HB:=hS hb;clear hb)|(refine gL (some 20) Try.func6 #[.slice A1 l1.length c1,.int .i64 aW] ?_;(with_reducible refine(laws_szTokenS.calls _ _ l1 aW bG _ (Kd.C_i (Kd.C_below HR1.out HB.out)) HC1.out A9.out).mono ?_);rintro e w' ⟨rfl,⟨nd,rfl⟩⟩;refine⟨_,rfl,?_⟩));go_ret;exact⟨eE,hB⟩
   · refine bdR fun⟨bQ,bR⟩ A14=>?_;intro H
     try dsimp only at H
     revert H;refine bdR fun bv A15=>?_;refine bdR fun⟨aX,aY,b0⟩ A16=>?_;intro H
     try dsimp only at H
     revert H;refine bdR fun aK A17=>?_;refine bdR fun⟨bS,bT⟩ A18=>?_;intro H
     try dsimp only at H
     revert H;refine bdR fun⟨bb,be,b6⟩ A19=>?_;intro H
     try dsimp only at H
     revert H;refine adR fun b7=>?_;go_enter Try.func3,Try.ntmps3
     go_upto_region 11 with (first|(refine bE 3 #[.string a0_0,.int .i64 a0_1] 23 ?_;intro aU hg w21 hbox hb;have ab:=aM hbox;have aZ:=aM (sZ hg);have bK:=aZ;replace HB:=hS hb;clear hb hbox hg;have ch:=bz2 ab)|(refine gL (some 15) Try.func5 #[.agg #[.string a0_0,.int .i64 a0_1],.int .i64 1048576] ?_;(with_reducible refine(laws_szOut.calls a0_0 a0_1 1048576 aW _ A4.out).mono ?_);rintro e w23 ⟨rfl,hb⟩;refine⟨_,rfl,?_⟩;replace ab:=bW ab hb;replace HB:=hS hb;clear hb)|(refine gL (some 20) Try.func6 #[.slice A1 l1.length c1,.int .i64 aW] ?_;(with_reducible refine(laws_szTokenS.calls _ _ l1 aW bG _ (Kd.C_i (Kd.C_below HR1.out HB.out)) HC1.out A9.out).mono ?_);rintro e w' ⟨rfl,⟨nd,rfl⟩⟩;refine⟨_,rfl,?_⟩;(try(rw[drewN_self w23];generalize hq_:World.drewN w23 _=w23;have n0_:Aside0 (w23.heap[aU]? = some (.cells #[.string a0_0,.int .i64 a0_1] 23 (0,0))):=⟨by rw[← hq_];exact(bI ab.out)⟩;have n1_:Aside0 (Below w.heap.size w w23):=⟨by rw[← hq_];exact hB⟩;clear ab HB hq_;have ab:=n0_;have HB:=n1_;clear n0_ n1_));have bX:=bz2 ab)|(refine gL (some 25) Try.func8 #[.agg #[.string a0_0,.int .i64 a0_1]] ?_;(with_reducible refine(laws_toOut.calls a0_0 a0_1 bQ bR _ A14.out).mono ?_);rintro e w25 ⟨rfl,hb⟩;refine⟨_,rfl,?_⟩;replace ab:=bW ab hb;replace HB:=hS hb;clear hb)|(refine gL (some 27) Try.func9 #[.slice A1 l1.length c1] ?_;(with_reducible refine(laws_toTokenS.calls k _ _ l1 bv _ (Kd.C_i (Kd.C_below HR1.out HB.out)) HC1.out A15.out).mono ?_);rintro e w26 ⟨dm,rfl,ho0,hb⟩;refine⟨_,rfl,?_⟩;have af:=aM (zb ho0 (zD hB));replace ab:=bW ab hb;replace HB:=hS hb;clear hb ho0;obtain⟨ci,cj,ck⟩:=zY af.out;subst ck)|(refine gL (some 29) Try.func7 #[.agg #[.string bQ,.int .i64 bR],.slice ci bv.length cj,.bool a2] ?_;(with_reducible refine(spec_WovenBlock.calls k bQ bR _ _ bv a2 aX aY b0 _ ?s1 ?s2 A16.out).mono ?_);(case s1=>exact Kd.C_i (zJ af.out).2.2);(case s2=>exact(zJ af.out).2.1);rintro e w28 ⟨rfl,hb⟩;refine⟨_,rfl,?_⟩;replace af:=Kd.wR af hb;replace ab:=bW ab hb;replace HB:=hS hb;clear hb)|(refine bE 8 #[.string (⟨#[]⟩:ByteArray),.int .i64 0] 27 ?_;intro bl hg w29 hbox hb;replace af:=Kd.wR af hb;have ac:=aM hbox;have b8:=aM (sZ hg);have cG:=b8;replace HB:=hS hb;have aC:=aM (nL ab hg);have aD:=aM (nG ab hg);replace ab:=bW ab hb;clear hb hbox hg;have cH:=aD.out;have cI:=aC.out;have cl:=bz2 ac)|(refine gL (some 33) Try.func9 #[.slice A1 l1.length c1] ?_;(with_reducible refine(laws_toTokenS.calls k _ _ l1 aK _ ?s1 HC1.out A17.out).mono ?_);(case s1=>exact Kd.C_below HR1.out hB);rintro e w32 ⟨dn,rfl,ho0,hb⟩;refine⟨_,rfl,?_⟩;have n0_:=aM (zZ (Kd.R_p (zj af.out ac.out (by decide))) (ze ho0) hb);have n1_:=aM (zb (zi ho0 (zX (Kd.R_p (zj af.out ac.out (by decide))))) (zD hB));have n2_:=aM (blk_below (g:=aU) (o:=.cells #[.string a0_0,.int .i64 a0_1] 23 (0,0)) kB hb);have n3_:=aM (blk_below (g:=bl) (o:=.cells #[.string aX,.int .i64 aY] 27 (0,0)) kB hb);have n4_:=hS hb;clear af;clear ab;clear ac;clear HB;have af:=n0_;have aj:=n1_;have ab:=n2_;have ac:=n3_;have HB:=n4_;clear n0_ n1_ n2_ n3_ n4_;clear hb ho0;have cm:=bz2 ab)|(refine gL (some 36) Try.func8 #[.agg #[.string a0_0,.int .i64 a0_1]] ?_;(with_reducible refine(laws_toOut.calls a0_0 a0_1 bS bT _ A18.out).mono ?_);rintro e w34 ⟨rfl,hb⟩;refine⟨_,rfl,?_⟩;replace af:=Kd.wR af hb;replace aj:=Kd.wR aj hb;replace ab:=bW ab hb;replace ac:=bW ac hb;replace HB:=hS hb;clear hb;obtain⟨bU,bV,cn⟩:=zY aj.out;subst cn)|(refine gL (some 39) Try.func10 #[.agg #[.string bS,.int .i64 bT],.slice bU aK.length bV,.bool a2] ?_;(with_reducible refine(impl_WovenBlock.calls k bS bT _ _ aK a2 bb be b6 _ ?s1 ?s2 A19.out).mono ?_);(case s1=>exact Kd.C_i (zJ aj.out).2.2);(case s2=>exact(zJ aj.out).2.1);rintro e w36 ⟨rfl,hb⟩;refine⟨_,rfl,?_⟩;replace af:=Kd.wR af hb;replace aj:=Kd.wR aj hb;replace ab:=bW ab hb;replace ac:=bW ac hb;replace HB:=hS hb;clear hb)|(refine bE 11 #[.string (⟨#[]⟩:ByteArray),.int .i64 0] 27 ?_;intro bz hg w37 hbox hb;replace af:=Kd.wR af hb;replace aj:=Kd.wR aj hb;have ag:=aM hbox;have b9:=aM (sZ hg);have cJ:=b9;replace HB:=hS hb;have aG:=aM (nL ab hg);have aH:=aM (nG ab hg);replace ab:=bW ab hb;have aI:=aM (nL ac hg);have aJ:=aM (nG ac hg);replace ac:=bW ac hb;clear hb hbox hg;have cK:=aH.out;have cL:=aG.out;have cM:=aJ.out;have cN:=aI.out;have cp:=bz2 ag))
     (try simp only[Act.put,zE,zF,zG])
     go_cut [50] (fun v50 wc => ∃ (kq:Nat) (bk:Bool),v50 = .bool bk∧Aside0 (laws_FnExactWovenBlock.j0 kq l1 aK bk=some r)∧Aside0 (kq≤k)∧Aside0 (Kd.R k70 70 wc w.heap.size (fun _=>True) (.slice bU aK.length bV) aK)∧Aside0 (wc.heap[aU]? = some (.cells #[.string a0_0,.int .i64 a0_1] 23 (0,0)))∧Aside0 (wc.heap[bl]? = some (.cells #[.string aX,.int .i64 aY] 27 (0,0)))∧Aside0 (wc.heap[bz]? = some (.cells #[.string bb,.int .i64 be] 27 (0,0)))∧Aside0 (Below w.heap.size w wc))
     case first =>
      revert b7;refine aoR ?_;refine bdR fun bZ A41=>?_
      refine bB (fun c42=>?_) (fun c42=>?_)
      · intro H;subst c42;revert H;refine adR fun H'=>?_;have cO:=aH.out;have cP:=aG.out;have cQ:=aJ.out;have cR:=aI.out;have cq:=bz2 ag;have cS:=aD.out;have cT:=aC.out;have cr:=bz2 ac
        go_wp2_with (first|(refine gL (some 44) Try.func11 #[.agg #[.string bb,.int .i64 be],.agg #[.string aX,.int .i64 aY]] ?_;(with_reducible refine(laws_eqOut.calls bb be aX aY true _ A41.out).mono ?_);rintro e w48 ⟨rfl,hb⟩;refine⟨_,rfl,?_⟩;have n0_:=aM (zu (Kd.R_p (zj af.out ag.out (by decide))) hb);have n1_:=aM (zu (Kd.R_p (zj aj.out ag.out (by decide))) hb);have n2_:=aM (blk_below (g:=aU) (o:=.cells #[.string a0_0,.int .i64 a0_1] 23 (0,0)) kB hb);have n3_:=aM (blk_below (g:=bl) (o:=.cells #[.string aX,.int .i64 aY] 27 (0,0)) kB hb);have n4_:=aM (blk_below (g:=bz) (o:=.cells #[.string bb,.int .i64 be] 27 (0,0)) kB hb);have n5_:=hS hb;clear af;clear aj;clear ab;clear ac;clear ag;clear HB;have af:=n0_;have aj:=n1_;have ab:=n2_;have ac:=n3_;have ag:=n4_;have HB:=n5_;clear n0_ n1_ n2_ n3_ n4_ n5_;clear hb));go_meet
        case rel=>exact⟨_,((b6 != b0)),eQ,H',⟨lE⟩,⟨zA (zH aj.out (fun _ hk=>trivial))⟩,⟨bI ab.out⟩,⟨bI ac.out⟩,⟨bI ag.out⟩,⟨hB⟩⟩
      · intro H;subst c42;revert H;refine adR fun H'=>?_;have cU:=aH.out;have cW:=aG.out;have cX:=aJ.out;have cY:=aI.out;have ct:=bz2 ag;have cZ:=aD.out;have da:=aC.out;have cu:=bz2 ac
        go_wp2_with (first|(refine gL (some 44) Try.func11 #[.agg #[.string bb,.int .i64 be],.agg #[.string aX,.int .i64 aY]] ?_;(with_reducible refine(laws_eqOut.calls bb be aX aY false _ A41.out).mono ?_);rintro e w54 ⟨rfl,hb⟩;refine⟨_,rfl,?_⟩;have n0_:=aM (zu (Kd.R_p (zj af.out ag.out (by decide))) hb);have n1_:=aM (zu (Kd.R_p (zj aj.out ag.out (by decide))) hb);have n2_:=aM (blk_below (g:=aU) (o:=.cells #[.string a0_0,.int .i64 a0_1] 23 (0,0)) kB hb);have n3_:=aM (blk_below (g:=bl) (o:=.cells #[.string aX,.int .i64 aY] 27 (0,0)) kB hb);have n4_:=aM (blk_below (g:=bz) (o:=.cells #[.string bb,.int .i64 be] 27 (0,0)) kB hb);have n5_:=hS hb;clear af;clear aj;clear ab;clear ac;clear ag;clear HB;have af:=n0_;have aj:=n1_;have ab:=n2_;have ac:=n3_;have ag:=n4_;have HB:=n5_;clear n0_ n1_ n2_ n3_ n4_ n5_;clear hb));go_meet
        case rel=>exact⟨_,(true),eQ,H',⟨lE⟩,⟨zA (zH aj.out (fun _ hk=>trivial))⟩,⟨bI ab.out⟩,⟨bI ac.out⟩,⟨bI ag.out⟩,⟨hB⟩⟩
     case rest =>
      clear b7;(try clear c1);(try clear p2);(try clear c3);(try clear c4);(try clear c5);(try clear bn);(try clear c8);(try clear bM);(try clear c42);(try clear cg);(try clear ch);(try clear bX);(try clear cl);(try clear cm);(try clear cp);(try clear cq);(try clear cr);(try clear ct);(try clear cu);(try clear hz7);obtain⟨kq,bk,rfl,HA,HJ19,aV,ab,ac,ag,HB⟩:=hcut;rcases kq with _|ca
      · exact absurd HA.out (by simp[laws_FnExactWovenBlock.j0])
      revert HA;refine aoR ?_;intro H;simp only[laws_FnExactWovenBlock.j0]at H;revert H
      refine bB (fun c55=>?_) (fun c55=>?_)
      · intro H;subst c55;exact absurd ((zC H).trans hrt) (by decide)
      · intro H;subst c55;revert H;refine bdR fun t847 A56=>?_;refine bdR fun t850 A57=>?_
        refine bB (fun c58=>?_) (fun c58=>?_)
        · intro H;subst c58;clear hrt;obtain rfl:=zC H
          go_wp2_with (first|(refine gL (some 53) Try.func9 #[.slice A1 l1.length c1] ?_;(with_reducible refine(laws_toTokenS.calls ca _ _ l1 t847 _ (Kd.C_i (Kd.C_below HR1.out HB.out)) HC1.out A56.out).mono ?_);rintro e w59 ⟨dp,rfl,ho0,hb⟩;refine⟨_,rfl,?_⟩;have bf:=aM (zb (zi ho0 (zX (zA aV.out))) (zD hB));replace aV:=aM (zZ (zA aV.out) (ze ho0) hb);replace ab:=bW ab hb;replace ac:=bW ac hb;replace ag:=bW ag hb;replace HB:=hS hb;clear hb ho0;obtain⟨cw,cx,cy⟩:=zY bf.out;subst cy)|(refine gL (some 54) Try.func12 #[.slice bU aK.length bV,.slice cw t847.length cx] ?_;(with_reducible refine(laws_eqTokenS.calls ca _ _ aK _ _ t847 true _ ?s1 ?s2 ?s3 ?s4 A57.out).mono ?_);(case s1=>exact Kd.C_i (zJ aV.out).2.2);(case s2=>exact(zJ aV.out).2.1);(case s3=>exact Kd.C_i (zJ bf.out).2.2);(case s4=>exact(zJ bf.out).2.1);rintro e w61 ⟨rfl,hb⟩;refine⟨_,rfl,?_⟩;replace aV:=Kd.wR aV hb;replace bf:=Kd.wR bf hb;replace ab:=bW ab hb;replace ac:=bW ac hb;replace ag:=bW ag hb;replace HB:=hS hb;clear hb));go_ret;exact⟨eE,hB⟩
        · intro H;subst c58;exact absurd ((zC H).trans hrt) (by decide)
end Go.Proofs.Ytldiiicbgdfapaa.PFnExactWovenBlock
