/- Walks of functions that the law reaches: each call comes to what the Lean function of its name tells. -/
import Derived.Test.YtldiiicbgdfapaaPFnExactWovenBlockx5
namespace Go.Proofs.Ytldiiicbgdfapaa.PFnExactWovenBlock
open Go.RowKit Go.Proofs.YtldiiicbgdfapaaW.PrintWords Go.Proofs.YtldiiicbgdfapaaW.PrintLast Go.Proofs.YtldiiicbgdfapaaW.PrintMore
attribute [local go_sem] max2_int min2_int max_two min_two max_three min_three max_four min_four
set_option linter.unusedVariables false
set_option maxHeartbeats 8000000
set_option maxRecDepth 100000
set_option linter.unusedSimpArgs false
def spec_l05Same.l0:Nat→List Int→Int→Int→Int→Int→Option (Int)
  | 0,_,_,_,_,_=>none
  | k+1,x0,x1,x2,x3,x9=>if(wrap64 (x1+x9))<(x0.length:Int)then(if x9<x3 then(if 0≤(wrap64 (x1+x9))then(if(rd x0 (wrap64 (x1+x9)))=x2 then(spec_l05Same.l0 k x0 x1 x2 x3 (wrap64 (x9+1)))else(some x9))else(none))else(some x9))else(some x9)
def spec_l05Same.f (k:Nat) (l0:List Int) (a1:Int) (a2:Int) (a3:Int):Option (Int):=spec_l05Same.l0 k l0 a1 a2 a3 0
theorem spec_l05Same.calls (k:Nat) (A0:Option Addr) (c0:Nat) (l0:List Int) (a1:Int) (a2:Int) (a3:Int) (r:Int) (w:World) (hr0:Kd.C (Kd.int .i64) w A0 l0.length l0) (hc0:l0.length≤c0) (h:spec_l05Same.f k l0 a1 a2 a3=some r) :
 Calls Try.prog 61 #[.slice A0 l0.length c0,.int .i64 a1,.int .i64 a2,.int .i64 a3] w fun e w'=>e = .returned (.int .i64 r)∧Drawn0 w w':=by
 have HR0:=aM hr0;have HC0:=aM hc0;clear hr0 hc0;have H:(spec_l05Same.l0 k l0 a1 a2 a3 0)=some r:=h;clear h;revert H;refine adR fun H'=>?_;go_enter Try.func61,Try.ntmps61;go_wp2
 go_loopg [9] k (fun kq v9 w' => ∃ (au:Int),v9 = .int .i64 au∧Aside0 (spec_l05Same.l0 kq l0 a1 a2 a3 au=some r)∧Aside0 (kq≤k)∧Drawn0 w w')
 case atStart=>exact⟨(0),eQ,H',⟨zI _⟩,dQ⟩
 case round =>
  clear H';(try clear p2);obtain⟨au,rfl,HA,HK1,⟨m1,rfl⟩⟩:=hrel;rcases gk with _|k1
  · exact absurd HA.out (by simp[spec_l05Same.l0])
  revert HA;refine aoR ?_;intro H;simp only[spec_l05Same.l0]at H;revert H
  refine iB (fun aQ=>?_) (fun aQ=>?_)
  · intro H;revert H
    refine iB (fun aJ=>?_) (fun aJ=>?_)
    · intro H;obtain⟨ji7,aT⟩:∃ j_:Int,(wrap64 (a1+au))=j_:=⟨_,rfl⟩;replace H:(if 0≤(ji7)then(if(rd l0 (ji7))=a2 then(spec_l05Same.l0 k1 l0 a1 a2 a3 (wrap64 (au+1)))else(some au))else(none))=some r:=by first|(rw[aT]at H;exact H)|(simp only[aT]at H ⊢;exact H)
      (try rw[aT]at aQ);have cu:(IntKind.i64.wrap (a1+au))=ji7:=(i64_w _).trans aT;revert H;refine iR fun bb=>?_;intro H;revert H
      refine iQ (fun an ce=>?_) (fun c9 an ce=>?_)
      · refine adR fun H'=>?_;have ax:0≤((ji7):Int):=bD;have ay:(ji7)<(l0.length:Int):=bD;obtain⟨bu,bk,be⟩:=zV HR0.out (ji7) ax ay;cases bk;replace ax:=zB ax;replace ay:=zB ay;go_wp2;go_roundg k1
        case measure=>have:=HK1.out;omega
        case rel=>exact⟨(wrap64 (au+1)),eQ,H',⟨by have:=HK1.out;omega⟩,dQ⟩
      · intro H;obtain rfl:=zC H;have ax:0≤((ji7):Int):=bD;have ay:(ji7)<(l0.length:Int):=bD;obtain⟨bu,bk,be⟩:=zV HR0.out (ji7) ax ay;cases bk;replace ax:=zB ax;replace ay:=zB ay;go_wp2;go_ret;exact⟨by first|rfl|(simp;done)|(simp only[← aT] <;> (first|rfl|simp))|(simp[*];done),dQ⟩
    · intro H;obtain rfl:=zC H;go_wp2;go_ret;exact⟨eQ,dQ⟩
  · intro H;obtain rfl:=zC H;go_wp2;go_ret;exact⟨eQ,dQ⟩
mutual
def spec_RunsOf.l0:Nat→List Int→List (S52)→Int→Option ((List (S52))×Bool)
  | 0,_,_,_=>none
  | k+1,x0,x4,x5=>if x5<(x0.length:Int)then((spec_l05Same.f k x0 x5 0 138).bind fun t294=>(if x5>0 then(if 0≤(wrap64 (x5-1))then(if(wrap64 (x5-1))<(x0.length:Int)then((spec_l05Same.f k x0 x5 (rd x0 (wrap64 (x5-1))) 6).bind fun t296=>(spec_RunsOf.j1 k x0 x4 x5 t294 t296))else(none))else(none))else(spec_RunsOf.j1 k x0 x4 x5 t294 0)))else(some (x4,true))
def spec_RunsOf.j1:Nat→List Int→List (S52)→Int→Int→Int→Option ((List (S52))×Bool)
  | 0,_,_,_,_,_=>none
  | k+1,x0,x4,x5,x6,x7=>if x6≥11 then(if x4.length<8796093022208 then(spec_RunsOf.l0 k x0 (x4++[(⟨18,wrap64 (x6-11)⟩:S52)]) (wrap64 (x5+x6)))else(none))else(if x6≥3 then(if x4.length<8796093022208 then(spec_RunsOf.l0 k x0 (x4++[(⟨17,wrap64 (x6-3)⟩:S52)]) (wrap64 (x5+x6)))else(none))else(if x7≥3 then(if x4.length<8796093022208 then(spec_RunsOf.l0 k x0 (x4++[(⟨16,wrap64 (x7-3)⟩:S52)]) (wrap64 (x5+x7)))else(none))else(if 0≤x5 then(if x5<(x0.length:Int)then(if x4.length<8796093022208 then(spec_RunsOf.l0 k x0 (x4++[(⟨rd x0 x5,0⟩:S52)]) (wrap64 (x5+1)))else(none))else(none))else(none))))
end
def spec_RunsOf.f (k:Nat) (l0:List Int):Option ((List (S52))×Bool):=(some (([]:List (S52)):List (S52))).bind fun ao=>((spec_l05Ok.f k l0).bind fun aK=>(if aK=true then(spec_RunsOf.l0 k l0 ao 0)else(some (ao,false))))
theorem spec_RunsOf.calls (k:Nat) (A0:Option Addr) (c0:Nat) (l0:List Int) (r1:List (S52)) (r2:Bool) (w:World) (hr0:Kd.C (Kd.int .i64) w A0 l0.length l0) (hc0:l0.length≤c0) (h:spec_RunsOf.f k l0=some (r1,r2)) :
 Calls Try.prog 21 #[.slice A0 l0.length c0] w fun e w' => ∃ v0_:Value,e = .returned (.tuple #[v0_,.bool r2])∧Kd.R k52 52 w' w.heap.size (fun _=>True) v0_ r1∧Below w.heap.size w w':=by
 have hu52:=Try.underlying52;have HR0:=aM hr0;have HC0:=aM hc0;clear hr0 hc0;have HB:=aM (zQ w.heap.size w);have H:((some (([]:List (S52)):List (S52))).bind fun ao=>((spec_l05Ok.f k l0).bind fun aK=>(if aK=true then(spec_RunsOf.l0 k l0 ao 0)else(some (ao,false)))))=some (r1,r2):=h;clear h;obtain⟨ao,hy_⟩:∃ y_:List (S52),y_=(([]:List (S52))):=⟨_,rfl⟩;replace H:((spec_l05Ok.f k l0).bind fun aK=>(if aK=true then(spec_RunsOf.l0 k l0 ao 0)else(some (ao,false))))=some (r1,r2):=nH;have aD:=aM hy_;clear hy_;revert H;refine bdR fun aK A2=>?_
 refine bB (fun c3=>?_) (fun c3=>?_)
 · intro H;subst c3;revert H;refine adR fun H'=>?_;go_enter Try.func21,Try.ntmps21
   go_wp2_with (first|((with_reducible refine gD 8 ?_);refine Kd.R_lit k52 _ 52 ?hg (N:=8) ?hd (xs:=([]:List (S52))) (inner:=[]) (ok:=fun _=>True) (okp:=fun _=>True) ?hr ?hp (fun _ hk=>hk) trivial (zQ _ _) (zI _) (by simp) ?_;(case hd=>rfl);(case hg=>rfl);(case hr=>first|(go_simp;done)|(go_simp;rfl));(case hp=>exact(Reps.none _ _));intro cg w4 ho5 hb hg_ hnew_;clear hg_ hnew_;(first|rw[← aD.out]at ho5|(simp only[Int.reduceToNat]at ho5;rw[← aD.out]at ho5));have aU:=aM (zb ho5 (zD hB));replace HB:=hS hb;clear hb ho5)|(refine gL (some 10) Try.func60 #[.slice A0 l0.length c0] ?_;(with_reducible refine(spec_l05Ok.calls k _ _ l0 true _ (Kd.C_i (Kd.C_below HR0.out HB.out)) HC0.out A2.out).mono ?_);rintro e w' ⟨rfl,⟨nd,rfl⟩⟩;refine⟨_,rfl,?_⟩))
   go_loopg [4,5] k (fun kq v4 v5 w' => ∃ (ah:List (S52)) (ac:Int),v5 = .int .i64 ac∧Aside0 (spec_RunsOf.l0 kq l0 ah ac=some (r1,r2))∧Aside0 (kq≤k)∧Aside0 (Kd.R k52 52 w' w.heap.size (fun _=>True) v4 ah)∧Aside0 (Below w.heap.size w w'))
   case atStart=>exact⟨(ao),(0),eQ,H',⟨zI _⟩,⟨zA aU.out⟩,⟨hB⟩⟩
   case round =>
    clear H';(try clear c2);(try clear p2);(try clear c3);obtain⟨ah,ac,rfl,HA,HK1,aj,HB⟩:=hrel;rcases gk with _|k1
    · exact absurd HA.out (by simp[spec_RunsOf.l0])
    revert HA;refine aoR ?_;intro H;simp only[spec_RunsOf.l0]at H;revert H
    refine iB (fun aJ=>?_) (fun aJ=>?_)
    · refine bdR fun t294 A7=>?_;refine adR fun HC8=>?_
      go_upto_if 21 with (first|(refine gL (some 19) Try.func61 #[.slice A0 l0.length c0,.int .i64 ac,.int .i64 0,.int .i64 138] ?_;(with_reducible refine(spec_l05Same.calls k1 _ _ l0 ac 0 138 t294 _ (Kd.C_i (Kd.C_below HR0.out HB.out)) HC0.out A7.out).mono ?_);rintro e w' ⟨rfl,⟨nd,rfl⟩⟩;refine⟨_,rfl,?_⟩))
      (try simp only[Act.put,zE,zF,zG])
      go_cut [7] (fun v7 wc => ∃ (kq:Nat) (ap:Int),v7 = .int .i64 ap∧Aside0 (spec_RunsOf.j1 kq l0 ah ac t294 ap=some (r1,r2))∧Aside0 (kq≤k1)∧Aside0 (Kd.R k52 52 wc w.heap.size (fun _=>True) u4 ah)∧Aside0 (Below w.heap.size w wc))
      case first =>
       revert HC8;refine aoR ?_
       refine ifB (fun c9=>?_) (fun c9=>?_)
       · intro H;have an:=zN c9;clear c9
         (first|rw[an]|(simp only[i64_w,i32_w];rw[an])|skip);obtain⟨aq,aG⟩:∃ j_:Int,(wrap64 (ac-1))=j_:=⟨_,rfl⟩;replace H:(if 0≤(aq)then(if(aq)<(l0.length:Int)then((spec_l05Same.f k1 l0 ac (rd l0 (aq)) 6).bind fun t296=>(spec_RunsOf.j1 k1 l0 ah ac t294 t296))else(none))else(none))=some (r1,r2):=by first|(rw[aG]at H;exact H)|(simp only[aG]at H ⊢;exact H)
         have ch:(IntKind.i64.wrap (ac-1))=aq:=(i64_w _).trans aG;revert H;refine iR fun av=>?_;refine iR fun aV=>?_;refine bdR fun t296 A13=>?_;refine adR fun H'=>?_;have bf:0≤((aq):Int):=bD;have bg:(aq)<(l0.length:Int):=bD;obtain⟨bv,ci,ar⟩:=zV HR0.out (aq) bf bg;cases ci;replace ar:=cB0 HB ar;replace bf:=zB bf;replace bg:=zB bg
         go_wp2_with (first|((with_reducible refine gC 61 ?_);refine goesL_ (some 29) rfl rfl Try.func61 (by kernel_rfl) rfl #[.slice (some bv) l0.length c0,.int .i64 ac,.int .i64 (rd l0 (aq)),.int .i64 6] rfl (by(try simp only[zg,List.map_cons,List.map_nil]);first|done|(simp only[aG];rfl)|rfl|(simp only[zn,zd];rfl)) ?_;(with_reducible refine(spec_l05Same.calls k1 _ _ l0 ac (rd l0 (aq)) 6 t296 _ (Kd.C_i (Kd.C_below HR0.out HB.out)) HC0.out A13.out).mono ?_);rintro e w' ⟨rfl,⟨nd,rfl⟩⟩;refine⟨_,rfl,?_⟩));go_meet
         case rel=>exact⟨_,(t296),eQ,H',⟨by have:=HK1.out;first|omega|exact zI _⟩,⟨zA aj.out⟩,⟨hB⟩⟩
       · intro H;have an:=zO c9;clear c9
         (first|rw[an]|(simp only[i64_w,i32_w];rw[an])|skip);revert H;refine adR fun H'=>?_;go_wp2;go_meet
         case rel=>exact⟨_,(0),eQ,H',⟨by have:=HK1.out;first|omega|exact zI _⟩,⟨zA aj.out⟩,⟨hB⟩⟩
      case rest =>
       clear HC8;(try clear c2);(try clear p2);(try clear c3);(try clear aJ);(try clear c9);(try clear an);(try clear c11);(try clear av);(try clear c12);(try clear aV);(try clear ar);(try clear bf);(try clear bg);obtain⟨kq,ap,rfl,HA,HJ7,aj,HB⟩:=hcut;rcases kq with _|kj7
       · exact absurd HA.out (by simp[spec_RunsOf.j1])
       revert HA;refine aoR ?_;intro H;simp only[spec_RunsOf.j1]at H;revert H
       refine iB (fun bw=>?_) (fun bw=>?_)
       · refine ifR fun c15=>?_;intro H;have bx:=aM c15;clear c15;obtain⟨bz,hy_⟩:∃ y_:List (S52),y_=(ah++[(⟨18,wrap64 (t294-11)⟩:S52)]):=⟨_,rfl⟩;replace H:(spec_RunsOf.l0 kj7 l0 bz (wrap64 (ac+t294)))=some (r1,r2):=nH;have bA:=aM hy_;clear hy_;revert H;refine adR fun H'=>?_
         go_wp2_with (first|((with_reducible refine gate_builtin (b:=.append) (xs:=#[.tmp 32,.tmp 36]) rfl ?_);at_builtin;refine ZC k52 (w0:=w) w.heap.size rfl (.tmp 32) (.tmp 36) 48 52 (.agg #[(.int .i64 0),(.int .i64 0)]) 16 rfl Try.underlying48 info52 rfl (by decide) (by omega) u4 ah (⟨18,wrap64 (t294-11)⟩:S52) [.int .i64 18,.int .i64 (wrap64 (t294-11))] (fun _=>True) (fun _=>False) rfl rfl ?aP (fun _ hk=>hk.elim) ?aF ?aO ?aB ?aS ?aL ?_;(case aP=>exact k52_mkM _ _ _ (⟨18,wrap64 (t294-11)⟩:S52));(case aB=>exact hB);(case aF=>exact(fun _ _=>trivial));(case aO=>exact(zA aj.out));(case aS=>exact(zD hB));(case aL=>have:=bx.out;omega);intro cA w16 ho hb hg hat;rw[← bA.out]at ho;replace HB:=aM hb;have bF:=aM ho;clear aj;clear ho hb hg hat));go_roundg kj7
         case measure=>have:=HK1.out;have:=HJ7.out;omega
         case rel=>exact⟨(bz),(wrap64 (ac+t294)),eQ,H',⟨by have:=HK1.out;have:=HJ7.out;omega⟩,⟨zA bF.out⟩,⟨hB⟩⟩
       · intro H;revert H
         refine iB (fun bi=>?_) (fun bi=>?_)
         · refine ifR fun c18=>?_;intro H;have bG:=aM c18;clear c18;obtain⟨bH,hy_⟩:∃ y_:List (S52),y_=(ah++[(⟨17,wrap64 (t294-3)⟩:S52)]):=⟨_,rfl⟩;replace H:(spec_RunsOf.l0 kj7 l0 bH (wrap64 (ac+t294)))=some (r1,r2):=nH;have bJ:=aM hy_;clear hy_;revert H;refine adR fun H'=>?_
           go_wp2_with (first|((with_reducible refine gate_builtin (b:=.append) (xs:=#[.tmp 43,.tmp 47]) rfl ?_);at_builtin;refine ZC k52 (w0:=w) w.heap.size rfl (.tmp 43) (.tmp 47) 48 52 (.agg #[(.int .i64 0),(.int .i64 0)]) 16 rfl Try.underlying48 info52 rfl (by decide) (by omega) u4 ah (⟨17,wrap64 (t294-3)⟩:S52) [.int .i64 17,.int .i64 (wrap64 (t294-3))] (fun _=>True) (fun _=>False) rfl rfl ?aP (fun _ hk=>hk.elim) ?aF ?aO ?aB ?aS ?aL ?_;(case aP=>exact k52_mkM _ _ _ (⟨17,wrap64 (t294-3)⟩:S52));(case aB=>exact hB);(case aF=>exact(fun _ _=>trivial));(case aO=>exact(zA aj.out));(case aS=>exact(zD hB));(case aL=>have:=bG.out;omega);intro cC w19 ho hb hg hat;rw[← bJ.out]at ho;replace HB:=aM hb;have bK:=aM ho;clear aj;clear ho hb hg hat));go_roundg kj7
           case measure=>have:=HK1.out;have:=HJ7.out;omega
           case rel=>exact⟨(bH),(wrap64 (ac+t294)),eQ,H',⟨by have:=HK1.out;have:=HJ7.out;omega⟩,⟨zA bK.out⟩,⟨hB⟩⟩
         · intro H;revert H
           refine iB (fun bM=>?_) (fun bM=>?_)
           · refine ifR fun c21=>?_;intro H;have bN:=aM c21;clear c21;obtain⟨bO,hy_⟩:∃ y_:List (S52),y_=(ah++[(⟨16,wrap64 (ap-3)⟩:S52)]):=⟨_,rfl⟩;replace H:(spec_RunsOf.l0 kj7 l0 bO (wrap64 (ac+ap)))=some (r1,r2):=nH;have bP:=aM hy_;clear hy_;revert H;refine adR fun H'=>?_
             go_wp2_with (first|((with_reducible refine gate_builtin (b:=.append) (xs:=#[.tmp 54,.tmp 58]) rfl ?_);at_builtin;refine ZC k52 (w0:=w) w.heap.size rfl (.tmp 54) (.tmp 58) 48 52 (.agg #[(.int .i64 0),(.int .i64 0)]) 16 rfl Try.underlying48 info52 rfl (by decide) (by omega) u4 ah (⟨16,wrap64 (ap-3)⟩:S52) [.int .i64 16,.int .i64 (wrap64 (ap-3))] (fun _=>True) (fun _=>False) rfl rfl ?aP (fun _ hk=>hk.elim) ?aF ?aO ?aB ?aS ?aL ?_;(case aP=>exact k52_mkM _ _ _ (⟨16,wrap64 (ap-3)⟩:S52));(case aB=>exact hB);(case aF=>exact(fun _ _=>trivial));(case aO=>exact(zA aj.out));(case aS=>exact(zD hB));(case aL=>have:=bN.out;omega);intro cD w22 ho hb hg hat;rw[← bP.out]at ho;replace HB:=aM hb;have bQ:=aM ho;clear aj;clear ho hb hg hat));go_roundg kj7
             case measure=>have:=HK1.out;have:=HJ7.out;omega
             case rel=>exact⟨(bO),(wrap64 (ac+ap)),eQ,H',⟨by have:=HK1.out;have:=HJ7.out;omega⟩,⟨zA bQ.out⟩,⟨hB⟩⟩
           · refine iR fun cw=>?_;refine iR fun cx=>?_;refine ifR fun c25=>?_;intro H;have bR:=aM c25;clear c25;obtain⟨bS,hy_⟩:∃ y_:List (S52),y_=(ah++[(⟨rd l0 ac,0⟩:S52)]):=⟨_,rfl⟩;replace H:(spec_RunsOf.l0 kj7 l0 bS (wrap64 (ac+1)))=some (r1,r2):=nH;have bT:=aM hy_;clear hy_;revert H;refine adR fun H'=>?_;have bl:0≤(ac:Int):=bD;have bn:ac<(l0.length:Int):=bD;obtain⟨cy,cj,aH⟩:=zV HR0.out ac bl bn;cases cj;replace aH:=cB0 HB aH;replace bl:=zB bl;replace bn:=zB bn
             go_wp2_with (first|((with_reducible refine gate_builtin (b:=.append) (xs:=#[.tmp 63,.tmp 69]) rfl ?_);at_builtin;refine ZC k52 (w0:=w) w.heap.size rfl (.tmp 63) (.tmp 69) 48 52 (.agg #[(.int .i64 0),(.int .i64 0)]) 16 rfl Try.underlying48 info52 rfl (by decide) (by omega) u4 ah (⟨rd l0 ac,0⟩:S52) [.int .i64 (rd l0 ac),.int .i64 0] (fun _=>True) (fun _=>False) rfl rfl ?aP (fun _ hk=>hk.elim) ?aF ?aO ?aB ?aS ?aL ?_;(case aP=>exact k52_mkM _ _ _ (⟨rd l0 ac,0⟩:S52));(case aB=>exact hB);(case aF=>exact(fun _ _=>trivial));(case aO=>exact(zA aj.out));(case aS=>exact(zD hB));(case aL=>have:=bR.out;omega);intro cE w26 ho hb hg hat;rw[← bT.out]at ho;replace HB:=aM hb;have bU:=aM ho;clear aj;clear ho hb hg hat));go_roundg kj7
             case measure=>have:=HK1.out;have:=HJ7.out;omega
             case rel=>exact⟨(bS),(wrap64 (ac+1)),eQ,H',⟨by have:=HK1.out;have:=HJ7.out;omega⟩,⟨zA bU.out⟩,⟨hB⟩⟩
    · intro H;simp only[zL,zM]at H;obtain⟨rfl,rfl⟩:=H;go_wp2
      go_ret2;exact⟨_,eE,zA aj.out,hB⟩
 · intro H;subst c3;simp only[zL,zM]at H;obtain⟨rfl,rfl⟩:=H;go_enter Try.func21,Try.ntmps21
   go_wp2_with (first|((with_reducible refine gD 8 ?_);refine Kd.R_lit k52 _ 52 ?hg (N:=8) ?hd (xs:=([]:List (S52))) (inner:=[]) (ok:=fun _=>True) (okp:=fun _=>True) ?hr ?hp (fun _ hk=>hk) trivial (zQ _ _) (zI _) (by simp) ?_;(case hd=>rfl);(case hg=>rfl);(case hr=>first|(go_simp;done)|(go_simp;rfl));(case hp=>exact(Reps.none _ _));intro cg w27 aW hb hg_ hnew_;clear hg_ hnew_;(first|rw[← aD.out]at aW|(simp only[Int.reduceToNat]at aW;rw[← aD.out]at aW));have aU:=aM (zb aW (zD hB));replace HB:=hS hb;clear hb aW)|(refine gL (some 10) Try.func60 #[.slice A0 l0.length c0] ?_;(with_reducible refine(spec_l05Ok.calls k _ _ l0 false _ (Kd.C_i (Kd.C_below HR0.out HB.out)) HC0.out A2.out).mono ?_);rintro e w' ⟨rfl,⟨nd,rfl⟩⟩;refine⟨_,rfl,?_⟩))
   go_ret2;exact⟨_,eE,zA aU.out,hB⟩
def spec_CodeKind.l0:Nat→List Int→Int→Int→Int→Option (Int)
  | 0,_,_,_,_=>none
  | k+1,x0,x3,x5,x6=>if x6<(x0.length:Int)then(if 0≤x6 then(if(rd x0 x6)>0 then(spec_CodeKind.l0 k x0 x3 (wrap64 (x5+1)) (wrap64 (x6+1)))else(spec_CodeKind.l0 k x0 x3 x5 (wrap64 (x6+1))))else(none))else(if x5=0 then(some 1)else(if x3=32768 then(some 2)else(if x3>32768 then(some 5)else(if x5=1 then(if x3=16384 then(some 3)else(some 4))else(some 4)))))
def spec_CodeKind.f (k:Nat) (l0:List Int):Option (Int):=(spec_l03Room.f k l0 288).bind fun aw=>(if aw.2=true then(spec_CodeKind.l0 k l0 aw.1 0 0)else(some 0))
theorem spec_CodeKind.calls (k:Nat) (A0:Option Addr) (c0:Nat) (l0:List Int) (r:Int) (w:World) (hr0:Kd.C (Kd.int .i64) w A0 l0.length l0) (hc0:l0.length≤c0) (h:spec_CodeKind.f k l0=some r) :
 Calls Try.prog 23 #[.slice A0 l0.length c0] w fun e w'=>e = .returned (.int .i64 r)∧Drawn0 w w':=by
 have HR0:=aM hr0;have HC0:=aM hc0;clear hr0 hc0;have H:((spec_l03Room.f k l0 288).bind fun aw=>(if aw.2=true then(spec_CodeKind.l0 k l0 aw.1 0 0)else(some 0)))=some r:=h;clear h;revert H;refine bdR fun⟨bo,cF⟩ A2=>?_;intro H
 try dsimp only at H
 revert H
 refine bB (fun c3=>?_) (fun c3=>?_)
 · intro H;subst c3;revert H;refine adR fun H'=>?_;go_enter Try.func23,Try.ntmps23
   go_wp2_with (first|(refine gL (some 9) Try.func66 #[.slice A0 l0.length c0,.int .i64 288] ?_;(with_reducible refine(spec_l03Room.calls k _ _ l0 288 bo true _ ?s1 HC0.out A2.out).mono ?_);(case s1=>exact Kd.C_i HR0.out);rintro e w' ⟨rfl,⟨nd,rfl⟩⟩;refine⟨_,rfl,?_⟩))
   go_loopg [5,6] k (fun kq v5 v6 w' => ∃ (ac:Int) (ak:Int),v5 = .int .i64 ac∧v6 = .int .i64 ak∧Aside0 (spec_CodeKind.l0 kq l0 bo ac ak=some r)∧Aside0 (kq≤k)∧Drawn0 w w')
   case atStart=>exact⟨(0),(0),eQ,eQ,H',⟨zI _⟩,dQ⟩
   case round =>
    clear H';(try clear c2);(try clear p2);(try clear c3);obtain⟨ac,ak,rfl,rfl,HA,HK1,⟨m1,rfl⟩⟩:=hrel;rcases gk with _|k1
    · exact absurd HA.out (by simp[spec_CodeKind.l0])
    revert HA;refine aoR ?_;intro H;simp only[spec_CodeKind.l0]at H;revert H
    refine iB (fun ck=>?_) (fun ck=>?_)
    · refine iR fun aQ=>?_;intro H;revert H
      refine iB (fun aJ=>?_) (fun aJ=>?_)
      · refine adR fun H'=>?_;have az:0≤(ak:Int):=bD;have aA:ak<(l0.length:Int):=bD;obtain⟨bV,bq,bh⟩:=zV HR0.out ak az aA;cases bq;replace az:=zB az;replace aA:=zB aA;go_wp2;go_roundg k1
        case measure=>have:=HK1.out;omega
        case rel=>exact⟨(wrap64 (ac+1)),(wrap64 (ak+1)),eQ,eQ,H',⟨by have:=HK1.out;omega⟩,dQ⟩
      · refine adR fun H'=>?_;have az:0≤(ak:Int):=bD;have aA:ak<(l0.length:Int):=bD;obtain⟨bV,bq,bh⟩:=zV HR0.out ak az aA;cases bq;replace az:=zB az;replace aA:=zB aA;go_wp2;go_roundg k1
        case measure=>have:=HK1.out;omega
        case rel=>exact⟨(ac),(wrap64 (ak+1)),eQ,eQ,H',⟨by have:=HK1.out;omega⟩,dQ⟩
    · intro H;revert H
      refine iQ (fun cl cm=>?_) (fun c7 cl cm=>?_)
      · intro H;obtain rfl:=zC H;go_wp2;go_ret;exact⟨eQ,dQ⟩
      · intro H;revert H
        refine iQ (fun bb cn=>?_) (fun c8 bb cn=>?_)
        · intro H;obtain rfl:=zC H;go_wp2;go_ret;exact⟨eQ,dQ⟩
        · intro H;revert H
          refine iB (fun an=>?_) (fun an=>?_)
          · intro H;obtain rfl:=zC H;go_wp2;go_ret;exact⟨eQ,dQ⟩
          · intro H;revert H
            refine iQ (fun bX bY=>?_) (fun c10 bX bY=>?_)
            · intro H;revert H
              refine iQ (fun av aX=>?_) (fun c11 av aX=>?_)
              · intro H;obtain rfl:=zC H;go_wp2;go_ret;exact⟨eQ,dQ⟩
              · intro H;obtain rfl:=zC H;go_wp2;go_ret;exact⟨eQ,dQ⟩
            · intro H;obtain rfl:=zC H;go_wp2;go_ret;exact⟨eQ,dQ⟩
 · intro H;subst c3;obtain rfl:=zC H;go_enter Try.func23,Try.ntmps23
   go_wp2_with (first|(refine gL (some 9) Try.func66 #[.slice A0 l0.length c0,.int .i64 288] ?_;(with_reducible refine(spec_l03Room.calls k _ _ l0 288 bo false _ ?s1 HC0.out A2.out).mono ?_);(case s1=>exact Kd.C_i HR0.out);rintro e w' ⟨rfl,⟨nd,rfl⟩⟩;refine⟨_,rfl,?_⟩));go_ret;exact⟨eQ,dQ⟩
def spec_l08Order.f:Option (List Int):=some (([16,17,18,0,8,7,9,6,10,5,11,4,12,3,13,2,14,1,15]:List Int))
theorem spec_l08Order.calls  (r:List Int) (w:World) (h:spec_l08Order.f=some r) :
 Calls Try.prog 24 #[] w fun e w' => ∃ v0_:Value,e = .returned (v0_)∧Kd.R (Kd.int .i64) 3 w' w.heap.size (fun _=>True) v0_ r∧Below w.heap.size w w':=by
 have HB:=aM (zQ w.heap.size w);have H:(some (([16,17,18,0,8,7,9,6,10,5,11,4,12,3,13,2,14,1,15]:List Int)))=some r:=h;clear h;obtain⟨cp,hy_⟩:∃ y_:List Int,y_=(([16,17,18,0,8,7,9,6,10,5,11,4,12,3,13,2,14,1,15]:List Int)):=⟨_,rfl⟩;replace H:(some cp)=some r:=nH;have bj:=aM hy_;clear hy_;obtain rfl:=zC H;go_enter Try.func24,Try.ntmps24
 go_wp2_with (first|((with_reducible refine gD 1 ?_);refine Kd.R_lit (Kd.int .i64) _ 3 ?hg (N:=1) ?hd (xs:=([16,17,18,0,8,7,9,6,10,5,11,4,12,3,13,2,14,1,15]:List Int)) (inner:=[.int .i64 16,.int .i64 17,.int .i64 18,.int .i64 0,.int .i64 8,.int .i64 7,.int .i64 9,.int .i64 6,.int .i64 10,.int .i64 5,.int .i64 11,.int .i64 4,.int .i64 12,.int .i64 3,.int .i64 13,.int .i64 2,.int .i64 14,.int .i64 1,.int .i64 15]) (ok:=fun _=>True) (okp:=fun _=>True) ?hr ?hp (fun _ hk=>hk) trivial (zQ _ _) (zI _) (by simp) ?_;(case hd=>rfl);(case hg=>rfl);(case hr=>first|(go_simp;done)|(go_simp;rfl));(case hp=>exact(Reps.one (show Kd.M (Kd.int .i64) _ _ _ 16 [.int .i64 16]from rfl) (Reps.one (show Kd.M (Kd.int .i64) _ _ _ 17 [.int .i64 17]from rfl) (Reps.one (show Kd.M (Kd.int .i64) _ _ _ 18 [.int .i64 18]from rfl) (Reps.one (show Kd.M (Kd.int .i64) _ _ _ 0 [.int .i64 0]from rfl) (Reps.one (show Kd.M (Kd.int .i64) _ _ _ 8 [.int .i64 8]from rfl) (Reps.one (show Kd.M (Kd.int .i64) _ _ _ 7 [.int .i64 7]from rfl) (Reps.one (show Kd.M (Kd.int .i64) _ _ _ 9 [.int .i64 9]from rfl) (Reps.one (show Kd.M (Kd.int .i64) _ _ _ 6 [.int .i64 6]from rfl) (Reps.one (show Kd.M (Kd.int .i64) _ _ _ 10 [.int .i64 10]from rfl) (Reps.one (show Kd.M (Kd.int .i64) _ _ _ 5 [.int .i64 5]from rfl) (Reps.one (show Kd.M (Kd.int .i64) _ _ _ 11 [.int .i64 11]from rfl) (Reps.one (show Kd.M (Kd.int .i64) _ _ _ 4 [.int .i64 4]from rfl) (Reps.one (show Kd.M (Kd.int .i64) _ _ _ 12 [.int .i64 12]from rfl) (Reps.one (show Kd.M (Kd.int .i64) _ _ _ 3 [.int .i64 3]from rfl) (Reps.one (show Kd.M (Kd.int .i64) _ _ _ 13 [.int .i64 13]from rfl) (Reps.one (show Kd.M (Kd.int .i64) _ _ _ 2 [.int .i64 2]from rfl) (Reps.one (show Kd.M (Kd.int .i64) _ _ _ 14 [.int .i64 14]from rfl) (Reps.one (show Kd.M (Kd.int .i64) _ _ _ 1 [.int .i64 1]from rfl) (Reps.one (show Kd.M (Kd.int .i64) _ _ _ 15 [.int .i64 15]from rfl) (Reps.none _ _)))))))))))))))))))));intro cG w1 ho2 hb hg_ hnew_;clear hg_ hnew_;(first|rw[← bj.out]at ho2|(simp only[Int.reduceToNat]at ho2;rw[← bj.out]at ho2));have bZ:=aM (zb ho2 (zD hB));replace HB:=hS hb;clear hb ho2));go_ret;exact⟨_,eE,zA bZ.out,hB⟩
def spec_OutOk.f (k:Nat) (a0_0:ByteArray) (a0_1:Int):Option (Bool):=if(a0_0.size:Int)>12000 then(some false)else(if a0_1<0 then(some false)else(if a0_1>(wrap64 (8*(a0_0.size:Int)))then(some false)else(if(wrap64 (Int.tdiv (wrap64 (a0_1+7)) 8))=(a0_0.size:Int)then(if(Int.tmod a0_1 8)=0 then(some true)else(if 0≤(wrap64 ((a0_0.size:Int)-1))then(if(wrap64 ((a0_0.size:Int)-1))<(a0_0.size:Int)then((spec_l01Pow.f k (Int.tmod a0_1 8)).bind fun aC=>(some (decide ((wrap64 (bt a0_0 (wrap64 ((a0_0.size:Int)-1))))<aC))))else(none))else(none)))else(some false))))
theorem spec_OutOk.calls (k:Nat) (a0_0:ByteArray) (a0_1:Int) (r:Bool) (w:World) (h:spec_OutOk.f k a0_0 a0_1=some r) :
 Calls Try.prog 67 #[.agg #[.string a0_0,.int .i64 a0_1]] w fun e w'=>e = .returned (.bool r)∧Below w.heap.size w w':=by
 have hu27:=Try.underlying27;have HB:=aM (zQ w.heap.size w);unfold spec_OutOk.f at h;have H:=h;clear h;revert H
 refine ifB (fun c2=>?_) (fun c2=>?_)
 · intro H;have cq:=zN c2;have cr:decide (12000<a0_0.size)=true:=zN (by omega);clear c2;obtain rfl:=zC H;go_enter Try.func67,Try.ntmps67
   go_wp2_with (first|((with_reducible refine gD 1 ?_);(try(refine gate_guard (by rfl) ?_;dsimp only));refine bE 1 #[.string a0_0,.int .i64 a0_1] 27 ?_;intro ae hg w3 hbox hb;have aa:=aM hbox;have ab:=aM (sZ hg);have af:=ab;replace HB:=hS hb;clear hb hbox hg;have hz4:=bz2 aa))
   repeat (go_quiet (first|((with_reducible refine gD 1 ?_);(try(refine gate_guard (by rfl) ?_;dsimp only));refine bE 1 #[.string a0_0,.int .i64 a0_1] 27 ?_;intro ae hg w3 hbox hb;have n0_:=hS hb;have n1_:=aM hbox;have n2_:=aM (sZ hg);have n3_:=aM (sZ hg);clear HB;have HB:=n0_;have aa:=n1_;have ab:=n2_;have af:=n3_;clear n0_ n1_ n2_ n3_;clear hb hbox hg;have hz4:=bz2 aa));try go_wp2_with (first|((with_reducible refine gD 1 ?_);(try(refine gate_guard (by rfl) ?_;dsimp only));refine bE 1 #[.string a0_0,.int .i64 a0_1] 27 ?_;intro ae hg w3 hbox hb;have n0_:=hS hb;have n1_:=aM hbox;have n2_:=aM (sZ hg);have n3_:=aM (sZ hg);clear HB;have HB:=n0_;have aa:=n1_;have ab:=n2_;have af:=n3_;clear n0_ n1_ n2_ n3_;clear hb hbox hg;have hz4:=bz2 aa)))
   go_ret;exact⟨eE,hB⟩
 · intro H;have cq:=zO c2;have cr:decide (12000<a0_0.size)=false:=zO (by omega);clear c2;revert H
   refine iB (fun aQ=>?_) (fun aQ=>?_)
   · intro H;obtain rfl:=zC H;go_enter Try.func67,Try.ntmps67
     go_wp2_with (first|((with_reducible refine gD 1 ?_);(try(refine gate_guard (by rfl) ?_;dsimp only));refine bE 1 #[.string a0_0,.int .i64 a0_1] 27 ?_;intro ae hg w6 hbox hb;have aa:=aM hbox;have ab:=aM (sZ hg);have af:=ab;replace HB:=hS hb;clear hb hbox hg;have hz7:=bz2 aa))
     repeat (go_quiet (first|((with_reducible refine gD 1 ?_);(try(refine gate_guard (by rfl) ?_;dsimp only));refine bE 1 #[.string a0_0,.int .i64 a0_1] 27 ?_;intro ae hg w6 hbox hb;have n0_:=hS hb;have n1_:=aM hbox;have n2_:=aM (sZ hg);have n3_:=aM (sZ hg);clear HB;have HB:=n0_;have aa:=n1_;have ab:=n2_;have af:=n3_;clear n0_ n1_ n2_ n3_;clear hb hbox hg;have hz7:=bz2 aa));try go_wp2_with (first|((with_reducible refine gD 1 ?_);(try(refine gate_guard (by rfl) ?_;dsimp only));refine bE 1 #[.string a0_0,.int .i64 a0_1] 27 ?_;intro ae hg w6 hbox hb;have n0_:=hS hb;have n1_:=aM hbox;have n2_:=aM (sZ hg);have n3_:=aM (sZ hg);clear HB;have HB:=n0_;have aa:=n1_;have ab:=n2_;have af:=n3_;clear n0_ n1_ n2_ n3_;clear hb hbox hg;have hz7:=bz2 aa)))
     go_ret;exact⟨eE,hB⟩
   · intro H;revert H
     refine iB (fun bb=>?_) (fun bb=>?_)
     · intro H;obtain rfl:=zC H;go_enter Try.func67,Try.ntmps67
       go_wp2_with (first|((with_reducible refine gD 1 ?_);(try(refine gate_guard (by rfl) ?_;dsimp only));refine bE 1 #[.string a0_0,.int .i64 a0_1] 27 ?_;intro ae hg w9 hbox hb;have aa:=aM hbox;have ab:=aM (sZ hg);have af:=ab;replace HB:=hS hb;clear hb hbox hg;have b0:=bz2 aa))
       repeat (go_quiet (first|((with_reducible refine gD 1 ?_);(try(refine gate_guard (by rfl) ?_;dsimp only));refine bE 1 #[.string a0_0,.int .i64 a0_1] 27 ?_;intro ae hg w9 hbox hb;have n0_:=hS hb;have n1_:=aM hbox;have n2_:=aM (sZ hg);have n3_:=aM (sZ hg);clear HB;have HB:=n0_;have aa:=n1_;have ab:=n2_;have af:=n3_;clear n0_ n1_ n2_ n3_;clear hb hbox hg;have b0:=bz2 aa));try go_wp2_with (first|((with_reducible refine gD 1 ?_);(try(refine gate_guard (by rfl) ?_;dsimp only));refine bE 1 #[.string a0_0,.int .i64 a0_1] 27 ?_;intro ae hg w9 hbox hb;have n0_:=hS hb;have n1_:=aM hbox;have n2_:=aM (sZ hg);have n3_:=aM (sZ hg);clear HB;have HB:=n0_;have aa:=n1_;have ab:=n2_;have af:=n3_;clear n0_ n1_ n2_ n3_;clear hb hbox hg;have b0:=bz2 aa)))
       go_ret;exact⟨eE,hB⟩
     · intro H;revert H
       refine iQ (fun av aX=>?_) (fun c11 av aX=>?_)
       · intro H;revert H
         refine iQ (fun aV b6=>?_) (fun c12 aV b6=>?_)
         · intro H;obtain rfl:=zC H;go_enter Try.func67,Try.ntmps67
           go_wp2_with (first|((with_reducible refine gD 1 ?_);(try(refine gate_guard (by rfl) ?_;dsimp only));refine bE 1 #[.string a0_0,.int .i64 a0_1] 27 ?_;intro ae hg w13 hbox hb;have aa:=aM hbox;have ab:=aM (sZ hg);have af:=ab;replace HB:=hS hb;clear hb hbox hg;have br:=bz2 aa))
           repeat (go_quiet (first|((with_reducible refine gD 1 ?_);(try(refine gate_guard (by rfl) ?_;dsimp only));refine bE 1 #[.string a0_0,.int .i64 a0_1] 27 ?_;intro ae hg w13 hbox hb;have n0_:=hS hb;have n1_:=aM hbox;have n2_:=aM (sZ hg);have n3_:=aM (sZ hg);clear HB;have HB:=n0_;have aa:=n1_;have ab:=n2_;have af:=n3_;clear n0_ n1_ n2_ n3_;clear hb hbox hg;have br:=bz2 aa));try go_wp2_with (first|((with_reducible refine gD 1 ?_);(try(refine gate_guard (by rfl) ?_;dsimp only));refine bE 1 #[.string a0_0,.int .i64 a0_1] 27 ?_;intro ae hg w13 hbox hb;have n0_:=hS hb;have n1_:=aM hbox;have n2_:=aM (sZ hg);have n3_:=aM (sZ hg);clear HB;have HB:=n0_;have aa:=n1_;have ab:=n2_;have af:=n3_;clear n0_ n1_ n2_ n3_;clear hb hbox hg;have br:=bz2 aa)))
           go_ret;exact⟨eE,hB⟩
         · intro H;obtain⟨ai,aI⟩:∃ j_:Int,(wrap64 ((a0_0.size:Int)-1))=j_:=⟨_,rfl⟩;replace H:(if 0≤(ai)then(if(ai)<(a0_0.size:Int)then((spec_l01Pow.f k (Int.tmod a0_1 8)).bind fun aC=>(some (decide ((wrap64 (bt a0_0 (ai)))<aC))))else(none))else(none))=some r:=by first|(rw[aI]at H;exact H)|(simp only[aI]at H ⊢;exact H)
           have ct:(IntKind.i64.wrap ((a0_0.size:Int)-1))=ai:=(i64_w _).trans aI;revert H;refine iR fun cz=>?_;refine iR fun bi=>?_;refine bdR fun aC A19=>?_;intro H;obtain rfl:=zC H;go_enter Try.func67,Try.ntmps67
           go_wp2_with (first|((with_reducible refine gD 1 ?_);(try(refine gate_guard (by rfl) ?_;dsimp only));refine bE 1 #[.string a0_0,.int .i64 a0_1] 27 ?_;intro ae hg w20 hbox hb;have aa:=aM hbox;have ab:=aM (sZ hg);have af:=ab;replace HB:=hS hb;clear hb hbox hg;have b7:=bz2 aa;have p18:0≤((ai):Int):=bD;have q18:(ai)<(a0_0.size:Int):=bD;have hx18:=bt_at a0_0 (ai);replace p18:=zB p18;replace q18:=zB q18)|(go_at_call 63;(with_reducible refine(spec_l01Pow.calls k (Int.tmod a0_1 8) aC _ A19.out).mono ?_);rintro e w' ⟨rfl,⟨nd,rfl⟩⟩;(try first|exact⟨rfl,_,zR _ _ _⟩|exact⟨rfl,_,Eq.trans (zR _ _ _) (congrArg (World.drewN _) (Nat.add_assoc _ _ _))⟩)))
           repeat (go_quiet (first|((with_reducible refine gD 1 ?_);(try(refine gate_guard (by rfl) ?_;dsimp only));refine bE 1 #[.string a0_0,.int .i64 a0_1] 27 ?_;intro ae hg w20 hbox hb;have n0_:=hS hb;have n1_:=aM hbox;have n2_:=aM (sZ hg);have n3_:=aM (sZ hg);clear HB;have HB:=n0_;have aa:=n1_;have ab:=n2_;have af:=n3_;clear n0_ n1_ n2_ n3_;clear hb hbox hg;have b7:=bz2 aa;have p18:0≤((ai):Int):=bD;have q18:(ai)<(a0_0.size:Int):=bD;have hx18:=bt_at a0_0 (ai);replace p18:=zB p18;replace q18:=zB q18)|(go_at_call 63;(with_reducible refine(spec_l01Pow.calls k (Int.tmod a0_1 8) aC _ A19.out).mono ?_);rintro e w' ⟨rfl,⟨nd,rfl⟩⟩;(try first|exact⟨rfl,_,zR _ _ _⟩|exact⟨rfl,_,Eq.trans (zR _ _ _) (congrArg (World.drewN _) (Nat.add_assoc _ _ _))⟩)));try go_wp2_with (first|((with_reducible refine gD 1 ?_);(try(refine gate_guard (by rfl) ?_;dsimp only));refine bE 1 #[.string a0_0,.int .i64 a0_1] 27 ?_;intro ae hg w20 hbox hb;have n0_:=hS hb;have n1_:=aM hbox;have n2_:=aM (sZ hg);have n3_:=aM (sZ hg);clear HB;have HB:=n0_;have aa:=n1_;have ab:=n2_;have af:=n3_;clear n0_ n1_ n2_ n3_;clear hb hbox hg;have b7:=bz2 aa;have p18:0≤((ai):Int):=bD;have q18:(ai)<(a0_0.size:Int):=bD;have hx18:=bt_at a0_0 (ai);replace p18:=zB p18;replace q18:=zB q18)|(go_at_call 63;(with_reducible refine(spec_l01Pow.calls k (Int.tmod a0_1 8) aC _ A19.out).mono ?_);rintro e w' ⟨rfl,⟨nd,rfl⟩⟩;(try first|exact⟨rfl,_,zR _ _ _⟩|exact⟨rfl,_,Eq.trans (zR _ _ _) (congrArg (World.drewN _) (Nat.add_assoc _ _ _))⟩))))
           go_ret;exact⟨by first|rfl|(simp[errW_none,errW_some] <;> rfl)|(simp only[← aI];first|rfl|(simp[errW_none,errW_some] <;> rfl))|(simp[*,errW_none,errW_some] <;> rfl),hB⟩
       · intro H;obtain rfl:=zC H;go_enter Try.func67,Try.ntmps67
         go_wp2_with (first|((with_reducible refine gD 1 ?_);(try(refine gate_guard (by rfl) ?_;dsimp only));refine bE 1 #[.string a0_0,.int .i64 a0_1] 27 ?_;intro ae hg w22 hbox hb;have aa:=aM hbox;have ab:=aM (sZ hg);have af:=ab;replace HB:=hS hb;clear hb hbox hg;have b8:=bz2 aa))
         repeat (go_quiet (first|((with_reducible refine gD 1 ?_);(try(refine gate_guard (by rfl) ?_;dsimp only));refine bE 1 #[.string a0_0,.int .i64 a0_1] 27 ?_;intro ae hg w22 hbox hb;have n0_:=hS hb;have n1_:=aM hbox;have n2_:=aM (sZ hg);have n3_:=aM (sZ hg);clear HB;have HB:=n0_;have aa:=n1_;have ab:=n2_;have af:=n3_;clear n0_ n1_ n2_ n3_;clear hb hbox hg;have b8:=bz2 aa));try go_wp2_with (first|((with_reducible refine gD 1 ?_);(try(refine gate_guard (by rfl) ?_;dsimp only));refine bE 1 #[.string a0_0,.int .i64 a0_1] 27 ?_;intro ae hg w22 hbox hb;have n0_:=hS hb;have n1_:=aM hbox;have n2_:=aM (sZ hg);have n3_:=aM (sZ hg);clear HB;have HB:=n0_;have aa:=n1_;have ab:=n2_;have af:=n3_;clear n0_ n1_ n2_ n3_;clear hb hbox hg;have b8:=bz2 aa)))
         go_ret;exact⟨eE,hB⟩
def spec_l01May.f (k:Nat) (a0_0:ByteArray) (a0_1:Int) (a1:Int) (a2:Int):Option (Bool):=(spec_OutOk.f k a0_0 a0_1).bind fun b9=>(if b9=true then((spec_l01In.f a2 0 24).bind fun ca=>(if ca=true then((spec_l01Pow.f k a2).bind fun aN=>((spec_l01In.f a1 0 (wrap64 (aN-1))).bind fun cd=>(if cd=true then(some (decide (a0_1≤(wrap64 (96000-a2)))))else(some false))))else(some false)))else(some false))
theorem spec_l01May.calls (k:Nat) (a0_0:ByteArray) (a0_1:Int) (a1:Int) (a2:Int) (r:Bool) (w:World) (h:spec_l01May.f k a0_0 a0_1 a1 a2=some r) :
 Calls Try.prog 110 #[.agg #[.string a0_0,.int .i64 a0_1],.int .i64 a1,.int .i64 a2] w fun e w'=>e = .returned (.bool r)∧Below w.heap.size w w':=by
 have hu27:=Try.underlying27;have HB:=aM (zQ w.heap.size w);unfold spec_l01May.f at h;have H:=h;clear h;revert H;refine bdR fun b9 A4=>?_
 refine bB (fun c5=>?_) (fun c5=>?_)
 · intro H;subst c5;revert H;refine bdR fun ca A6=>?_
   refine bB (fun c7=>?_) (fun c7=>?_)
   · intro H;subst c7;revert H;refine bdR fun aN A8=>?_;refine bdR fun cd A9=>?_
     refine bB (fun c10=>?_) (fun c10=>?_)
     · intro H;subst c10;obtain rfl:=zC H;go_enter Try.func110,Try.ntmps110
       go_wp2_with (first|(refine bE 3 #[.string a0_0,.int .i64 a0_1] 27 ?_;intro aY hg w11 hbox hb;have ag:=aM hbox;have am:=aM (sZ hg);have aZ:=am;replace HB:=hS hb;clear hb hbox hg;have cH:=bz2 ag)|(refine gL (some 8) Try.func67 #[.agg #[.string a0_0,.int .i64 a0_1]] ?_;(with_reducible refine(spec_OutOk.calls k a0_0 a0_1 true _ A4.out).mono ?_);rintro e w13 ⟨rfl,hb⟩;refine⟨_,rfl,?_⟩;replace ag:=bW ag hb;replace HB:=hS hb;clear hb)|(go_at_call 62;(with_reducible refine(spec_l01In.calls a2 0 24 true _ A6.out).mono ?_);rintro e w' ⟨rfl,⟨nd,rfl⟩⟩)|(go_at_call 63;(with_reducible refine(spec_l01Pow.calls k a2 aN _ A8.out).mono ?_);rintro e w' ⟨rfl,⟨nd,rfl⟩⟩)|(go_at_call 62;(with_reducible refine(spec_l01In.calls a1 0 (wrap64 (aN-1)) true _ A9.out).mono ?_);rintro e w' ⟨rfl,⟨nd,rfl⟩⟩;have br:=bz2 ag));go_ret;exact⟨eE,hB⟩
     · intro H;subst c10;obtain rfl:=zC H;go_enter Try.func110,Try.ntmps110
       go_wp2_with (first|(refine bE 3 #[.string a0_0,.int .i64 a0_1] 27 ?_;intro aY hg w15 hbox hb;have ag:=aM hbox;have am:=aM (sZ hg);have aZ:=am;replace HB:=hS hb;clear hb hbox hg;have cI:=bz2 ag)|(refine gL (some 8) Try.func67 #[.agg #[.string a0_0,.int .i64 a0_1]] ?_;(with_reducible refine(spec_OutOk.calls k a0_0 a0_1 true _ A4.out).mono ?_);rintro e w17 ⟨rfl,hb⟩;refine⟨_,rfl,?_⟩;replace ag:=bW ag hb;replace HB:=hS hb;clear hb)|(go_at_call 62;(with_reducible refine(spec_l01In.calls a2 0 24 true _ A6.out).mono ?_);rintro e w' ⟨rfl,⟨nd,rfl⟩⟩)|(go_at_call 63;(with_reducible refine(spec_l01Pow.calls k a2 aN _ A8.out).mono ?_);rintro e w' ⟨rfl,⟨nd,rfl⟩⟩)|(go_at_call 62;(with_reducible refine(spec_l01In.calls a1 0 (wrap64 (aN-1)) false _ A9.out).mono ?_);rintro e w' ⟨rfl,⟨nd,rfl⟩⟩));go_ret;exact⟨eE,hB⟩
   · intro H;subst c7;obtain rfl:=zC H;go_enter Try.func110,Try.ntmps110
     go_wp2_with (first|(refine bE 3 #[.string a0_0,.int .i64 a0_1] 27 ?_;intro aY hg w18 hbox hb;have ag:=aM hbox;have am:=aM (sZ hg);have aZ:=am;replace HB:=hS hb;clear hb hbox hg;have cJ:=bz2 ag)|(refine gL (some 8) Try.func67 #[.agg #[.string a0_0,.int .i64 a0_1]] ?_;(with_reducible refine(spec_OutOk.calls k a0_0 a0_1 true _ A4.out).mono ?_);rintro e w20 ⟨rfl,hb⟩;refine⟨_,rfl,?_⟩;replace ag:=bW ag hb;replace HB:=hS hb;clear hb)|(go_at_call 62;(with_reducible refine(spec_l01In.calls a2 0 24 false _ A6.out).mono ?_);rintro e w' ⟨rfl,⟨nd,rfl⟩⟩));go_ret;exact⟨eE,hB⟩
 · intro H;subst c5;obtain rfl:=zC H;go_enter Try.func110,Try.ntmps110
   go_wp2_with (first|(refine bE 3 #[.string a0_0,.int .i64 a0_1] 27 ?_;intro aY hg w21 hbox hb;have ag:=aM hbox;have am:=aM (sZ hg);have aZ:=am;replace HB:=hS hb;clear hb hbox hg;have cK:=bz2 ag)|(refine gL (some 8) Try.func67 #[.agg #[.string a0_0,.int .i64 a0_1]] ?_;(with_reducible refine(spec_OutOk.calls k a0_0 a0_1 false _ A4.out).mono ?_);rintro e w23 ⟨rfl,hb⟩;refine⟨_,rfl,?_⟩;replace ag:=bW ag hb;replace HB:=hS hb;clear hb));go_ret;exact⟨eE,hB⟩
end Go.Proofs.Ytldiiicbgdfapaa.PFnExactWovenBlock
