/- Walks of functions that the law reaches: each call comes to what the Lean function of its name tells. -/
import Derived.Test.YtldiiicbgdfapaaPFnExactWovenBlockx8
namespace Go.Proofs.Ytldiiicbgdfapaa.PFnExactWovenBlock
open Go.RowKit Go.Proofs.YtldiiicbgdfapaaW.PrintWords Go.Proofs.YtldiiicbgdfapaaW.PrintLast Go.Proofs.YtldiiicbgdfapaaW.PrintMore
attribute [local go_sem] max2_int min2_int max_two min_two max_three min_three max_four min_four
set_option linter.unusedVariables false
set_option maxHeartbeats 8000000
set_option maxRecDepth 100000
set_option linter.unusedSimpArgs false
mutual
def spec_l09All.l0:Nat→List (S62)→List Int→Int→Int→ByteArray→Int→Bool→Option (ByteArray×Int×Bool)
  | 0,_,_,_,_,_,_,_=>none
  | k+1,x1,x4,x5,x6,x1000,x1001,x1002=>if x6<(x1.length:Int)then(spec_l09All.l1 k x1 x4 x5 x6 0 x1000 x1001 x1002)else(some (strOfNums x4,x5,x1002))
def spec_l09All.l1:Nat→List (S62)→List Int→Int→Int→Int→ByteArray→Int→Bool→Option (ByteArray×Int×Bool)
  | 0,_,_,_,_,_,_,_,_=>none
  | k+1,x1,x4,x5,x6,x7,x1000,x1001,x1002=>if 0≤x6 then(if x6<(x1.length:Int)then(if x7<((rd_T62 x1 x6).f1)then(if(rd_T62 x1 x6).f2=true then(spec_l09All.j2 k x1 x4 x5 x6 x7 (wrap64 ((wrap64 (((rd_T62 x1 x6).f1)-1))-x7)) x1000 x1001 x1002)else(spec_l09All.j2 k x1 x4 x5 x6 x7 x7 x1000 x1001 x1002))else(if(x4.length:Int)>12000 then(some (x1000,x1001,true))else(spec_l09All.l0 k x1 x4 x5 (wrap64 (x6+1)) x1000 x1001 x1002)))else(none))else(none)
def spec_l09All.j2:Nat→List (S62)→List Int→Int→Int→Int→Int→ByteArray→Int→Bool→Option (ByteArray×Int×Bool)
  | 0,_,_,_,_,_,_,_,_,_=>none
  | k+1,x1,x4,x5,x6,x7,x8,x1000,x1001,x1002=>if(Int.tmod x5 8)=0 then(if x4.length<140737488355328 then((some (x4++[0]:List Int)).bind fun y442=>(if 0≤x6 then(if x6<(x1.length:Int)then((spec_l01Pow.f k x8).bind fun t446=>(if t446=0 then(none)else(if 0≤(wrap64 ((y442.length:Int)-1))then(if(wrap64 ((y442.length:Int)-1))<(y442.length:Int)then((spec_l01Pow.f k (Int.tmod x5 8)).bind fun t448=>(spec_l09All.l1 k x1 (y442.set ((wrap64 ((y442.length:Int)-1)):Int).toNat (((rd y442 (wrap64 ((y442.length:Int)-1)))+((wrap64 ((Int.tmod (wrap64 (Int.tdiv ((rd_T62 x1 x6).f0) t446)) 2)*t448)) % 256)) % 256)) (wrap64 (x5+1)) x6 (wrap64 (x7+1)) x1000 x1001 x1002))else(none))else(none))))else(none))else(none)))else(none))else(if 0≤x6 then(if x6<(x1.length:Int)then((spec_l01Pow.f k x8).bind fun t451=>(if t451=0 then(none)else(if 0≤(wrap64 ((x4.length:Int)-1))then(if(wrap64 ((x4.length:Int)-1))<(x4.length:Int)then((spec_l01Pow.f k (Int.tmod x5 8)).bind fun t453=>(spec_l09All.l1 k x1 (x4.set ((wrap64 ((x4.length:Int)-1)):Int).toNat (((rd x4 (wrap64 ((x4.length:Int)-1)))+((wrap64 ((Int.tmod (wrap64 (Int.tdiv ((rd_T62 x1 x6).f0) t451)) 2)*t453)) % 256)) % 256)) (wrap64 (x5+1)) x6 (wrap64 (x7+1)) x1000 x1001 x1002))else(none))else(none))))else(none))else(none))
end
def spec_l09All.f (k:Nat) (s0_0:ByteArray) (s0_1:Int) (s0_2:Bool) (l1:List (S62)):Option (ByteArray×Int×Bool):=if s0_2=true then(some (s0_0,s0_1,s0_2))else(if s0_0.size≤9223372036854775807 then(spec_l09All.l0 k l1 (bytesOf s0_0) s0_1 0 s0_0 s0_1 s0_2)else(none))
def spec_l09All.T14:Bool×List (List Nat×List Nat):=(true,[([],[]),([],[]),([0,1],[0,1]),([2],[2]),([3],[3]),([],[]),([5],[5]),([4,6],[4,6]),([7],[7]),([8,6,0,1,2,3,4,5,6,7,8],[8])])
def spec_l09All.B14:List Nat:=[0,0,3,7,15,0,32,127,255,511]
theorem spec_l09All.tab14:rtab .any (opsOf Try.f30 14)=spec_l09All.T14:=by kernel_rfl
theorem spec_l09All.bits14:waitsOk spec_l09All.T14.2 spec_l09All.B14=true:=by kernel_rfl
def spec_l09All.T15:Bool×List (List Nat×List Nat):=(true,[([],[]),([],[]),([1],[1]),([2],[2]),([],[]),([],[]),([5],[5]),([6],[6]),([4,7],[4,7]),([8],[8]),([],[]),([],[]),([11],[11]),([12],[12]),([10,13],[10,13]),([14],[14]),([9,15],[9,15]),([0,3,0,1,2,3,4,5,6,7,8,9,10,11,12,13,14,15,16],[0,3]),([17,16,13,0,1,2,3,4,5,6,7,8,9,10,11,12,13,14,15,16],[16,17])])
def spec_l09All.B15:List Nat:=[0,0,2,6,0,0,32,96,240,496,0,0,2048,6144,15360,31744,65520,131071,262143]
theorem spec_l09All.tab15:rtab .any (opsOf Try.f30 15)=spec_l09All.T15:=by kernel_rfl
theorem spec_l09All.bits15:waitsOk spec_l09All.T15.2 spec_l09All.B15=true:=by kernel_rfl
theorem spec_l09All.calls (k:Nat) (g:Nat) (s0_0:ByteArray) (s0_1:Int) (s0_2:Bool) (A1:Option Addr) (c1:Nat) (l1:List (S62)) (r1:ByteArray) (r2:Int) (r3:Bool) (w0 w:World) (hI:IsS59 w0 w g s0_0 s0_1 s0_2) (hB:Below w0.heap.size w0 w) (hr1:∀ W_,KeepBut w W_ g none→Kd.C k62 W_ A1 l1.length l1) (hc1:l1.length≤c1) (h:spec_l09All.f k s0_0 s0_1 s0_2 l1=some (r1,r2,r3)) :
 Calls Try.prog 30 #[.pointer (some ⟨g,0,none⟩),.slice A1 l1.length c1] w fun e w'=>e = .returned (.tuple #[])∧IsS59 w0 w' g r1 r2 r3∧Below w0.heap.size w0 w'∧KeepBut w w' g none:=by
 have hu27:=Try.underlying27;have HR1:=aM hr1;have HC1:=aM hc1;clear hr1 hc1;have HI0:=aM hI;have HK:=aM (KeepBut.refl w g none);have HL:=aM hB.size;clear hI;have HW0:=aM hB.size;have HB:=aM hB;clear hB;have H:(if s0_2=true then(some (s0_0,s0_1,s0_2))else(if s0_0.size≤9223372036854775807 then(spec_l09All.l0 k l1 (bytesOf s0_0) s0_1 0 s0_0 s0_1 s0_2)else(none)))=some (r1,r2,r3):=h;clear h;revert H
 refine bB (fun c3=>?_) (fun c3=>?_)
 · intro H;subst c3;simp only[zL,zM]at H;obtain⟨rfl,rfl,rfl⟩:=H;obtain⟨aI,hgz4⟩:=HI0.out;have aJ:=cellS59_0 aI;have aK:=cellS59_1 aI;have aN:=cellS59_2 aI;have aQ:=zS aI 0;have aT:=zS aI 1;have aU:=zS aI 2;clear aI hgz4;go_enter Try.func30,Try.ntmps30;go_wp2
   first|go_end0|((try simp only[Exit.inBlock,Exit.then]);refine bodyPost_ret (results_none rfl _ _ _) rfl ?_)
   exact⟨eE,iA,iC,(iL HK)⟩
 · intro H;subst c3;revert H;refine ifR fun c5=>?_;intro H;have bR:=zB c5;have bS:=zN c5
   try have bT:=eq_false (Nat.not_lt.2 c5)
   clear c5;obtain⟨b8,hy_⟩:∃ y_:List Int,y_=(bytesOf s0_0):=⟨_,rfl⟩;replace H:(spec_l09All.l0 k l1 b8 s0_1 0 s0_0 s0_1 false)=some (r1,r2,r3):=nH;have bP:=aM hy_;clear hy_;revert H;refine adR fun H'=>?_;obtain⟨aV,hgz6⟩:=HI0.out;have aW:=cellS59_0 aV;have aX:=cellS59_1 aV;have aY:=cellS59_2 aV;have aZ:=zS aV 0;have bb:=zS aV 1;have be:=zS aV 2;clear aV hgz6;go_enter Try.func30,Try.ntmps30
   go_wp2_with (first|((with_reducible refine gD 19 ?_);refine Kd.B_conv ?hg (N:=19) ?hd rfl Try.underlying9 Try.underlying36 Try.underlying5 (s:=s0_0) rfl (bD) (ok:=fun k_=>w.heap.size≤k_) (zI _) ?_;(case hd=>rfl);(case hg=>rfl);intro dH w7 ho8 hb hg_ hnew_;clear hg_ hnew_;(first|rw[← bP.out]at ho8|(simp only[Int.reduceToNat]at ho8;rw[← bP.out]at ho8));have b9:=aM (Kd.B_lower ho8 (keep_size (w:=w) (g:=g) (row:=none) (iL HK)));replace HK:=aM (KeepBut.trans (iL HK) (KeepBut.of_below hb g none) (.inl rfl));replace HB:=hS hb iC;replace HI0:=aM (IsS59.below iA hb);clear hb ho8;obtain⟨bf,hgz9⟩:=HI0.out;have bg:=cellS59_0 bf;have bh:=cellS59_1 bf;have bi:=cellS59_2 bf;have bj:=zS bf 0;have bk:=zS bf 1;have bl:=zS bf 2;clear bf hgz9))
   go_loopg [4,5,6] k (fun kq v4 v5 v6 w' => ∃ (bv:List Int) (bw:Int) (aa:Int) (ab:Bool),v5 = .int .i64 bw∧v6 = .int .i64 aa∧Aside0 (spec_l09All.l0 kq l1 bv bw aa s0_0 s0_1 ab=some (r1,r2,r3))∧Aside0 (kq≤k)∧Aside0 (Kd.B (Kd.int .u8) 5 w' w.heap.size (fun _=>True) v4 bv)∧Aside0 (IsS59 w0 w' g s0_0 s0_1 ab)∧Aside0 (KeepBut w w' g none)∧Aside0 (Below w0.heap.size w0 w'))
   case atStart=>exact⟨(b8),(s0_1),(0),(false),eQ,eQ,H',⟨zI _⟩,⟨by(with_reducible repeat (first|apply Kd.B_alloc|apply Kd.B_drewN|apply Kd.B_drew));exact Kd.B_mono b9.out (fun _ _=>trivial)⟩,⟨iA⟩,⟨(iL HK)⟩,⟨iC⟩⟩
   case round =>
    clear H';(try clear c1);(try clear p2);(try clear c3);(try clear c5);(try clear bR);(try clear bS);(try clear bT);(try clear aJ aK aN);(try clear aW aX aY);(try clear bg bh bi);(try clear aQ aT aU);(try clear aZ bb be);(try clear bj bk bl);obtain⟨bv,bw,aa,ab,rfl,rfl,HA,HK1,ae,HI0,HK,HB⟩:=hrel;rcases gk with _|k1
    · exact absurd HA.out (by simp[spec_l09All.l0])
    revert HA;refine aoR ?_;intro H;simp only[spec_l09All.l0]at H;revert H
    refine iB (fun br=>?_) (fun br=>?_)
    · refine adR fun H'=>?_;go_wp2
      go_loopg [4,5,7] k1 (fun kq v4 v5 v7 w' => ∃ (af:List Int) (ah:Int) (ak:Int),v5 = .int .i64 ah∧v7 = .int .i64 ak∧Aside0 (spec_l09All.l1 kq l1 af ah aa ak s0_0 s0_1 ab=some (r1,r2,r3))∧Aside0 (kq≤k1)∧Aside0 (Kd.B (Kd.int .u8) 5 w' w.heap.size (fun _=>True) v4 af)∧Aside0 (IsS59 w0 w' g s0_0 s0_1 ab)∧Aside0 (KeepBut w w' g none)∧Aside0 (Below w0.heap.size w0 w'))
      case atStart=>exact⟨(bv),(bw),(0),eQ,eQ,H',⟨zI _⟩,⟨by(with_reducible repeat (first|apply Kd.B_alloc|apply Kd.B_drewN|apply Kd.B_drew));exact ae.out⟩,⟨iA⟩,⟨(iL HK)⟩,⟨iC⟩⟩
      case round =>
       clear H';(try clear c1);(try clear p2);(try clear c3);(try clear c5);(try clear bR);(try clear bS);(try clear bT);(try clear br);(try clear aJ aK aN);(try clear aW aX aY);(try clear bg bh bi);(try clear aQ aT aU);(try clear aZ bb be);(try clear bj bk bl);obtain⟨af,ah,ak,rfl,rfl,HA,HK2,ae,HI0,HK,HB⟩:=hrel;rcases gk with _|k2
       · exact absurd HA.out (by simp[spec_l09All.l1])
       revert HA;refine aoR ?_;intro H;simp only[spec_l09All.l1]at H;revert H;refine iR fun ca=>?_;refine iR fun cd=>?_;intro H;revert H
       refine iB (fun bQ=>?_) (fun bQ=>?_)
       · refine adR fun ce=>?_;have ao:0≤(aa:Int):=bD;have ap:aa<(l1.length:Int):=bD;obtain⟨ac,bu,au,av,aw⟩:=at_T62 (Kd.C_foot_now HR1.out HK.out) aa ao ap;cases bu;replace ao:=zB ao;replace ap:=zB ap;have bx:0≤(aa:Int):=bD;have bz:aa<(l1.length:Int):=bD;obtain⟨cg,db,bA,bF,bG⟩:=at_T62 (Kd.C_foot_now HR1.out HK.out) aa bx bz;obtain rfl:ac=cg:=(by injection db);replace bx:=zB bx;replace bz:=zB bz
         go_upto_if 45 with (fail)
         go_cut [8] (fun v8 wc => ∃ (kq:Nat) (an:Int),v8 = .int .i64 an∧Aside0 (spec_l09All.j2 kq l1 af ah aa ak an s0_0 s0_1 ab=some (r1,r2,r3))∧Aside0 (kq≤k2)∧Aside0 (Kd.B (Kd.int .u8) 5 wc w.heap.size (fun _=>True) u4 af)∧Aside0 (IsS59 w0 wc g s0_0 s0_1 ab)∧Aside0 (KeepBut w wc g none)∧Aside0 (Below w0.heap.size w0 wc))
         case first =>
          revert ce;refine aoR ?_;intro H;obtain⟨bq15,hbq15⟩:∃ b_:Bool,b_=((rd_T62 l1 aa).f2):=⟨_,rfl⟩;replace H:(if bq15=true then(spec_l09All.j2 k2 l1 af ah aa ak (wrap64 ((wrap64 (((rd_T62 l1 aa).f1)-1))-ak)) s0_0 s0_1 ab)else(spec_l09All.j2 k2 l1 af ah aa ak ak s0_0 s0_1 ab))=some (r1,r2,r3):=by rw[← hbq15]at H;exact H
          have Nbq15:=aM hbq15;clear hbq15
          (try rw[← Nbq15.out]);revert H
          refine bB (fun c16=>?_) (fun c16=>?_)
          · intro H;subst c16;revert H;refine adR fun H'=>?_;have bH:0≤(aa:Int):=bD;have bJ:aa<(l1.length:Int):=bD;obtain⟨ch,dc,bK,bM,bn⟩:=at_T62 (Kd.C_foot_now HR1.out HK.out) aa bH bJ
            (try rw[← Nbq15.out]at bn);obtain rfl:ac=ch:=(by injection dc);replace bH:=zB bH;replace bJ:=zB bJ;go_wp2;go_meet
            case rel=>exact⟨_,(wrap64 ((wrap64 (((rd_T62 l1 aa).f1)-1))-ak)),eQ,H',⟨by have:=HK1.out;have:=HK2.out;first|omega|exact zI _⟩,⟨by(with_reducible repeat (first|apply Kd.B_alloc|apply Kd.B_drewN|apply Kd.B_drew));exact ae.out⟩,⟨iA⟩,⟨(iL HK)⟩,⟨iC⟩⟩
          · intro H;subst c16;revert H;refine adR fun H'=>?_;go_wp2;go_meet
            case rel=>exact⟨_,(ak),eQ,H',⟨by have:=HK1.out;have:=HK2.out;first|omega|exact zI _⟩,⟨by(with_reducible repeat (first|apply Kd.B_alloc|apply Kd.B_drewN|apply Kd.B_drew));exact ae.out⟩,⟨iA⟩,⟨(iL HK)⟩,⟨iC⟩⟩
         case rest =>
          clear ce;(try clear c1);(try clear p2);(try clear c3);(try clear c5);(try clear bR);(try clear bS);(try clear bT);(try clear br);(try clear ca);(try clear cd);(try clear bQ);(try clear c16);(try clear aJ aK aN);(try clear aW aX aY);(try clear bg bh bi);(try clear aQ aT aU);(try clear aZ bb be);(try clear bj bk bl);(try clear au);(try clear av);(try clear aw);(try clear bA);(try clear bF);(try clear bG);(try clear bK);(try clear bM);(try clear bn);(try clear ao);(try clear bx);(try clear bH);(try clear ap);(try clear bz);(try clear bJ);obtain⟨kq,an,rfl,HA,HJ13,ae,HI0,HK,HB⟩:=hcut;rcases kq with _|am
          · exact absurd HA.out (by simp[spec_l09All.j2])
          revert HA;refine aoR ?_;intro H;simp only[spec_l09All.j2]at H;revert H
          refine iQ (fun ci cj=>?_) (fun c17 ci cj=>?_)
          · refine ifR fun c18=>?_;intro H;have ck:=aM c18;clear c18;obtain⟨y442,hy_⟩:∃ y_:List Int,y_=(af++[0]):=⟨_,rfl⟩;replace H:(if 0≤aa then(if aa<(l1.length:Int)then((spec_l01Pow.f am an).bind fun t446=>(if t446=0 then(none)else(if 0≤(wrap64 ((y442.length:Int)-1))then(if(wrap64 ((y442.length:Int)-1))<(y442.length:Int)then((spec_l01Pow.f am (Int.tmod ah 8)).bind fun t448=>(spec_l09All.l1 am l1 (y442.set ((wrap64 ((y442.length:Int)-1)):Int).toNat (((rd y442 (wrap64 ((y442.length:Int)-1)))+((wrap64 ((Int.tmod (wrap64 (Int.tdiv ((rd_T62 l1 aa).f0) t446)) 2)*t448)) % 256)) % 256)) (wrap64 (ah+1)) aa (wrap64 (ak+1)) s0_0 s0_1 ab))else(none))else(none))))else(none))else(none))=some (r1,r2,r3):=nH;have cl:=aM hy_;clear hy_;revert H;refine iR fun dv=>?_;refine iR fun dw=>?_;refine bdR fun t446 A21=>?_
            refine ifB (fun c22=>?_) (fun c22=>?_)
            · intro H;exact absurd H (by simp)
            · intro H;have dx:=zK.mpr c22;have dy:=zU.mpr c22;obtain⟨ai,bo⟩:∃ j_:Int,(wrap64 ((y442.length:Int)-1))=j_:=⟨_,rfl⟩;replace H:(if 0≤(ai)then(if(ai)<(y442.length:Int)then((spec_l01Pow.f am (Int.tmod ah 8)).bind fun t448=>(spec_l09All.l1 am l1 (y442.set ((ai):Int).toNat (((rd y442 (ai))+((wrap64 ((Int.tmod (wrap64 (Int.tdiv ((rd_T62 l1 aa).f0) t446)) 2)*t448)) % 256)) % 256)) (wrap64 (ah+1)) aa (wrap64 (ak+1)) s0_0 s0_1 ab))else(none))else(none))=some (r1,r2,r3):=by first|(rw[bo]at H;exact H)|(simp only[bo]at H ⊢;exact H)
              (try rw[bo]at A21);have dd:(IntKind.i64.wrap ((y442.length:Int)-1))=ai:=(i64_w _).trans bo;revert H;refine iR fun dz=>?_;refine iR fun dA=>?_;refine bdR fun t448 A26=>?_;intro H;obtain⟨cm,hy_⟩:∃ y_:List Int,y_=(y442.set ((ai):Int).toNat (((rd y442 (ai))+((wrap64 ((Int.tmod (wrap64 (Int.tdiv ((rd_T62 l1 aa).f0) t446)) 2)*t448)) % 256)) % 256)):=⟨_,rfl⟩;replace H:(spec_l09All.l1 am l1 cm (wrap64 (ah+1)) aa (wrap64 (ak+1)) s0_0 s0_1 ab)=some (r1,r2,r3):=nH;have cn:=aM hy_;clear hy_;revert H;refine adR fun H'=>?_
              try go_wp2_with (first|((with_reducible refine gate_builtin (b:=.append) (xs:=#[.tmp 57,.tmp 58]) rfl ?_);at_builtin;refine Kd.B_append (Kd.int .u8) w.heap.size rfl (.tmp 57) (.tmp 58) 36 5 (.int .u8 0) 1 rfl Try.underlying36 info5 rfl (by decide) (by omega) u4 af 0 [.int .u8 0] (fun _=>True) (fun _=>False) rfl rfl ?aP (fun _ hk=>hk.elim) ?aF ?aO (zQ _ _) ?aS ?aL ?_;(case aP=>exact rfl);(case aF=>exact(fun _ _=>trivial));(case aO=>exact(by(with_reducible repeat (first|apply Kd.B_alloc|apply Kd.B_drewN|apply Kd.B_drew));exact ae.out));(case aS=>exact(keep_size (w:=w) (g:=g) (row:=none) (iL HK)));(case aL=>have:=ck.out;omega);intro de w28 ho hb hg hat;rw[← cl.out]at ho;replace HB:=aM (below_weaken iC HL.out hb);replace HI0:=aM (IsS59.grown iA hg (IsS59.own_neB HI0.out ae.out (by decide)));replace HK:=aM (KeepBut.trans (iL HK) (KeepBut.of_grown hg g) (Kd.B_base2 ae.out));have ag:=aM ho;clear ae;clear ho hb hg hat))
              replace ag:=aM (Kd.B_drew ag.out);replace HI0:=aM (IsS59.drew HI0.out);replace HK:=aM (keep_drew HK.out);replace HB:=aM (zy HB.out);have bU:0≤(aa:Int):=bD;have bV:aa<(l1.length:Int):=bD;obtain⟨cp,df,ax,ay,az⟩:=at_T62 (Kd.C_foot_now HR1.out HK.out) aa bU bV;have cI:=az;have cJ:=ay;have cK:=ax;obtain rfl:ac=cp:=(by injection df);have hne445_2:=(show(⟨(ac.add ((aa).toNat*3)).block,(ac.add ((aa).toNat*3)).off+2,none⟩:Addr).block≠g from by first|(rw[add_block];exact Kd.foot_ne HR1.out (by omega) (by decide))|(show(Addr.add _ _).block≠_;rw[add_block];exact Kd.foot_ne HR1.out (by omega) (by decide))|exact Kd.foot_ne HR1.out (by omega) (by decide)|(dsimp only;exact Kd.foot_ne HR1.out (by omega) (by decide)));have hlt445_2:=(Kd.foot_lt HR1.out (by omega) (by decide));have hne445_1:=(show(⟨(ac.add ((aa).toNat*3)).block,(ac.add ((aa).toNat*3)).off+1,none⟩:Addr).block≠g from by first|(rw[add_block];exact Kd.foot_ne HR1.out (by omega) (by decide))|(show(Addr.add _ _).block≠_;rw[add_block];exact Kd.foot_ne HR1.out (by omega) (by decide))|exact Kd.foot_ne HR1.out (by omega) (by decide)|(dsimp only;exact Kd.foot_ne HR1.out (by omega) (by decide)));have hlt445_1:=(Kd.foot_lt HR1.out (by omega) (by decide));have hne445_0:=(show((ac.add ((aa).toNat*3)):Addr).block≠g from by first|(rw[add_block];exact Kd.foot_ne HR1.out (by omega) (by decide))|(show(Addr.add _ _).block≠_;rw[add_block];exact Kd.foot_ne HR1.out (by omega) (by decide))|exact Kd.foot_ne HR1.out (by omega) (by decide)|(dsimp only;exact Kd.foot_ne HR1.out (by omega) (by decide)));have hlt445_0:=(Kd.foot_lt HR1.out (by omega) (by decide));replace bU:=zB bU;replace bV:=zB bV
              refine start_ (n:=10) (S:=fun w'=>w'.cell? (ac.add ((aa).toNat*3))=some (.int .i64 ((rd_T62 l1 aa).f0))∧w'.cell? ⟨(ac.add ((aa).toNat*3)).block,(ac.add ((aa).toNat*3)).off+1,none⟩=some (.int .i64 ((rd_T62 l1 aa).f1))∧w'.cell? ⟨(ac.add ((aa).toNat*3)).block,(ac.add ((aa).toNat*3)).off+2,none⟩=some (.bool ((rd_T62 l1 aa).f2))) (ds:=[]) (bAr 10 0) (by kernel_rfl) rfl rfl ⟨ax,ay,az⟩ (fun hHeld=>?_);refine with_tabW spec_l09All.tab14 spec_l09All.bits14 (fun HT_ HW_=>?_)
              generalize w28.drew=w29 at ag HI0 HK HB ax ay az hHeld ⊢;refine pU 0 60 (bAr 10 1) ?_;refine pU 1 61 (bAr 10 3) ?_;refine pU 2 62 (bAr 10 7) ?_;refine pU 3 63 (bAr 10 15) ?_;refine pU 5 65 (bAr 10 47) ?_
              refine tK 4 64 (bAr 10 63) ?_
              refine one_ (i:=6) (N:=some 66) (bAr 10 127) rfl rfl (one_of HT_.out (by kernel_rfl)) (by decide) (fun K hK=>?_)
              refine goes_ Try.func63 (by kernel_rfl) rfl #[.int .i64 an] (by rfl) rfl rfl (by(try simp only[zg,List.map_cons,List.map_nil]);first|done|rfl|(simp only[zn,zd];rfl)) ?_
              with_reducible refine(spec_l01Pow.calls am an t446 _ A21.out).mono ?_
              rintro e w' ⟨rfl,⟨nd,rfl⟩⟩
              refine⟨_,rfl,?_⟩
              refine hK.out _ _ ⟨hHeld.1,hHeld.2.1,hHeld.2.2⟩ (fun hHeld=>?_);clear hK K
              refine norm_ (a':=?_) ?_ ?_;rotate_left
              · show Act.put _ (some 66) _=_
                simp only[Act.put,zE,zF,zG,i64_w,i32_w]
                rfl
              refine pU 7 67 (bAr 10 255) ?_;refine pU 8 68 (bAr 10 511) ?_;refine pU 9 9 (bAr 10 1023) ?_
              refine done_ (done_of HT_.out (by kernel_rfl)) ?_
              try go_wp2
              (try(rw[drewN_self w29];generalize hq_:World.drewN w29 _=w29;have n0_:Aside0 (Kd.B (Kd.int .u8) 5 w29 w.heap.size (fun _=>True) de y442):=⟨by rw[← hq_];exact(by(with_reducible repeat (first|apply Kd.B_alloc|apply Kd.B_drewN|apply Kd.B_drew));exact ag.out)⟩;have n1_:Aside0 (IsS59 w0 w29 g s0_0 s0_1 ab):=⟨by rw[← hq_];exact iA⟩;have n2_:Aside0 (KeepBut w w29 g none):=⟨by rw[← hq_];exact(iL HK)⟩;have n3_:Aside0 (Below w0.heap.size w0 w29):=⟨by rw[← hq_];exact iC⟩;clear ag HI0 HK HB hq_;have ag:=n0_;have HI0:=n1_;have HK:=n2_;have HB:=n3_;clear n0_ n1_ n2_ n3_));replace ag:=aM (Kd.B_drew ag.out);replace HI0:=aM (IsS59.drew HI0.out);replace HK:=aM (keep_drew HK.out);replace HB:=aM (zy HB.out);obtain⟨dI,dJ,cq⟩:=Kd.B_slice ag.out
              (first|subst cq|(injection cq with f1_ f2_ f3_;have f4_:=f1_.symm;have f5_:=f3_.symm;clear f1_ f2_ f3_;subst f4_;subst f5_));have bX:0≤((ai):Int):=bD;have bY:(ai)<(y442.length:Int):=bD;obtain⟨cr,dg,aA⟩:=zV (Kd.B_reads' ag.out).2.2 (ai) bX bY;cases dg;replace bX:=zB bX;replace bY:=zB bY
              refine start_ (n:=19) (S:=fun w'=>w'.cell? (cr.add ((ai)).toNat)=some (.int .u8 (rd y442 (ai)))) (ds:=[18]) (bAr 19 0) (by kernel_rfl) rfl rfl (aA) (fun hHeld=>?_);refine with_tabW spec_l09All.tab15 spec_l09All.bits15 (fun HT_ HW_=>?_)
              generalize w29.drew=w30 at ag HI0 HK HB aA hHeld ⊢;refine pU 0 69 (bAr 19 1) ?_;refine pU 1 70 (bAr 19 3) ?_;refine pU 2 71 (bAr 19 7) ?_;refine pU 3 72 (bAr 19 15) ?_;refine pU 4 73 (bAr 19 31) ?_;refine pU 5 74 (bAr 19 63) ?_;refine pU 6 75 (bAr 19 127) ?_;refine pU 7 76 (bAr 19 255) ?_;refine pU 8 77 (bAr 19 511) ?_;refine pU 10 79 (bAr 19 1535) ?_;refine pU 11 80 (bAr 19 3583) ?_;refine pU 12 81 (bAr 19 7679) ?_
              refine tK 9 78 (bAr 19 8191) ?_
              refine one_ (i:=13) (N:=some 82) (bAr 19 16383) rfl rfl (one_of HT_.out (by kernel_rfl)) (by decide) (fun K hK=>?_)
              refine goes_ Try.func63 (by kernel_rfl) rfl #[.int .i64 (Int.tmod ah 8)] (by rfl) rfl rfl (by(try simp only[zg,List.map_cons,List.map_nil]);first|done|rfl|(simp only[zn,zd];rfl)) ?_
              with_reducible refine(spec_l01Pow.calls am (Int.tmod ah 8) t448 _ A26.out).mono ?_
              rintro e w' ⟨rfl,⟨nd,rfl⟩⟩
              refine⟨_,rfl,?_⟩;have p27:0≤((ai):Int):=bD;have q27:((ai):Int)<((y442.length:Int):Int):=bD;obtain⟨go27,dK,ct,cu,gl27,cl27,HG27⟩:=Kd.B_form ag.out (by omega)
              (first|cases ct|(injection ct with ea_ en_ ec_;(first|subst ea_|(injection ea_ with ea_;subst ea_));subst ec_;clear en_));have cw:=aM cu;have dL:=aM HG27;clear cu gl27 HG27
              (first|simp only[add_plain]at aA|skip);obtain⟨dh,di⟩:=Kd.B_celln 0 ag.out ((ai):Int) p27 q27;replace p27:=zB p27;replace q27:=zB q27;have HN0_go27:=aM (show g≠go27 from by have h_:=IsS59.own_neB HI0.out ag.out (by decide);intro e_;exact h_ (by rw[e_];rfl));have bN:=Kd.B_putn ag.out ((ai):Int) (((rd y442 (ai))+((wrap64 ((Int.tmod (wrap64 (Int.tdiv ((rd_T62 l1 aa).f0) t446)) 2)*t448)) % 256)) % 256) (of_eq_true p27) (of_eq_true q27)
              rw[← cn.out]at bN
              (try rw[show((rd y442 (ai))+((wrap64 ((Int.tmod (wrap64 (Int.tdiv ((rd_T62 l1 aa).f0) t446)) 2)*t448)) % 256)) % 256=((rd y442 (ai))+(wrap64 ((Int.tmod (wrap64 (Int.tdiv ((rd_T62 l1 aa).f0) t446)) 2)*t448))) % 256 from by omega]at bN);have HQ32:=aM bN;clear bN
              refine hK.out _ _ (hHeld) (fun hHeld=>?_);clear hK K
              refine norm_ (a':=?_) ?_ ?_;rotate_left
              · show Act.put _ (some 82) _=_
                simp only[Act.put,zE,zF,zG,i64_w,i32_w]
                rfl
              refine pU 14 83 (bAr 19 32767) ?_;refine pU 15 84 (bAr 19 65535) ?_;refine pU 16 85 (bAr 19 131071) ?_;refine pU 17 86 (bAr 19 262143) ?_
              refine last_ (i:=18) (N:=none) (bAr 19 524287) rfl rfl (one_of HT_.out (by kernel_rfl)) (by decide) (fun K hK=>?_)
              refine skip_ (w1:=?_) (by rfl) rfl ?_ ?_;rotate_left
              · go_simp
                rfl
              refine hK.out _ _ ?_;clear hK K
              refine done_ (done_of HT_.out (by kernel_rfl)) ?_
              try go_wp2
              go_roundg am
              case measure=>have:=HK1.out;have:=HK2.out;have:=HJ13.out;omega
              case rel=>exact⟨(cm),(wrap64 (ah+1)),(wrap64 (ak+1)),eQ,eQ,H',⟨by have:=HK1.out;have:=HK2.out;have:=HJ13.out;omega⟩,⟨by(with_reducible repeat (first|apply Kd.B_alloc|apply Kd.B_drewN|apply Kd.B_drew));exact HQ32.out⟩,⟨iA⟩,⟨by repeat (first|(with_reducible first|exact HK.out|apply KeepBut.set_|apply keep_drewN|apply keep_drew|apply keep_alloc|refine keep_far ?_ cw.out _)|exact HK.out)⟩,⟨by repeat (first|(with_reducible first|exact HB.out|apply zz|apply zx|apply zy|refine below_set ?_ (za HL.out cw.out)|refine below_set ?_ (IsS59.ge HI0.out))|exact HB.out)⟩⟩
          · refine iR fun dB=>?_;refine iR fun dC=>?_;refine bdR fun t451 A35=>?_
            refine ifB (fun c36=>?_) (fun c36=>?_)
            · intro H;exact absurd H (by simp)
            · intro H;have dD:=zK.mpr c36;have dE:=zU.mpr c36;obtain⟨aj,bq⟩:∃ j_:Int,(wrap64 ((af.length:Int)-1))=j_:=⟨_,rfl⟩;replace H:(if 0≤(aj)then(if(aj)<(af.length:Int)then((spec_l01Pow.f am (Int.tmod ah 8)).bind fun t453=>(spec_l09All.l1 am l1 (af.set ((aj):Int).toNat (((rd af (aj))+((wrap64 ((Int.tmod (wrap64 (Int.tdiv ((rd_T62 l1 aa).f0) t451)) 2)*t453)) % 256)) % 256)) (wrap64 (ah+1)) aa (wrap64 (ak+1)) s0_0 s0_1 ab))else(none))else(none))=some (r1,r2,r3):=by first|(rw[bq]at H;exact H)|(simp only[bq]at H ⊢;exact H)
              (try rw[bq]at A35);have dl:(IntKind.i64.wrap ((af.length:Int)-1))=aj:=(i64_w _).trans bq;revert H;refine iR fun dF=>?_;refine iR fun dG=>?_;refine bdR fun t453 A40=>?_;intro H;obtain⟨cx,hy_⟩:∃ y_:List Int,y_=(af.set ((aj):Int).toNat (((rd af (aj))+((wrap64 ((Int.tmod (wrap64 (Int.tdiv ((rd_T62 l1 aa).f0) t451)) 2)*t453)) % 256)) % 256)):=⟨_,rfl⟩;replace H:(spec_l09All.l1 am l1 cx (wrap64 (ah+1)) aa (wrap64 (ak+1)) s0_0 s0_1 ab)=some (r1,r2,r3):=nH;have cy:=aM hy_;clear hy_;revert H;refine adR fun H'=>?_
              try go_wp2
              replace ae:=aM (Kd.B_drew ae.out);replace HI0:=aM (IsS59.drew HI0.out);replace HK:=aM (keep_drew HK.out);replace HB:=aM (zy HB.out);have bZ:0≤(aa:Int):=bD;have b0:aa<(l1.length:Int):=bD;obtain⟨cz,dm,aC,aD,aG⟩:=at_T62 (Kd.C_foot_now HR1.out HK.out) aa bZ b0;have cL:=aG;have cM:=aD;have cN:=aC;obtain rfl:ac=cz:=(by injection dm);have hne450_2:=(show(⟨(ac.add ((aa).toNat*3)).block,(ac.add ((aa).toNat*3)).off+2,none⟩:Addr).block≠g from by first|(rw[add_block];exact Kd.foot_ne HR1.out (by omega) (by decide))|(show(Addr.add _ _).block≠_;rw[add_block];exact Kd.foot_ne HR1.out (by omega) (by decide))|exact Kd.foot_ne HR1.out (by omega) (by decide)|(dsimp only;exact Kd.foot_ne HR1.out (by omega) (by decide)));have hlt450_2:=(Kd.foot_lt HR1.out (by omega) (by decide));have hne450_1:=(show(⟨(ac.add ((aa).toNat*3)).block,(ac.add ((aa).toNat*3)).off+1,none⟩:Addr).block≠g from by first|(rw[add_block];exact Kd.foot_ne HR1.out (by omega) (by decide))|(show(Addr.add _ _).block≠_;rw[add_block];exact Kd.foot_ne HR1.out (by omega) (by decide))|exact Kd.foot_ne HR1.out (by omega) (by decide)|(dsimp only;exact Kd.foot_ne HR1.out (by omega) (by decide)));have hlt450_1:=(Kd.foot_lt HR1.out (by omega) (by decide));have hne450_0:=(show((ac.add ((aa).toNat*3)):Addr).block≠g from by first|(rw[add_block];exact Kd.foot_ne HR1.out (by omega) (by decide))|(show(Addr.add _ _).block≠_;rw[add_block];exact Kd.foot_ne HR1.out (by omega) (by decide))|exact Kd.foot_ne HR1.out (by omega) (by decide)|(dsimp only;exact Kd.foot_ne HR1.out (by omega) (by decide)));have hlt450_0:=(Kd.foot_lt HR1.out (by omega) (by decide));replace bZ:=zB bZ;replace b0:=zB b0
              refine start_ (n:=10) (S:=fun w'=>w'.cell? (ac.add ((aa).toNat*3))=some (.int .i64 ((rd_T62 l1 aa).f0))∧w'.cell? ⟨(ac.add ((aa).toNat*3)).block,(ac.add ((aa).toNat*3)).off+1,none⟩=some (.int .i64 ((rd_T62 l1 aa).f1))∧w'.cell? ⟨(ac.add ((aa).toNat*3)).block,(ac.add ((aa).toNat*3)).off+2,none⟩=some (.bool ((rd_T62 l1 aa).f2))) (ds:=[]) (bAr 10 0) (by kernel_rfl) rfl rfl ⟨aC,aD,aG⟩ (fun hHeld=>?_);refine with_tabW spec_l09All.tab14 spec_l09All.bits14 (fun HT_ HW_=>?_)
              generalize wc.drew=w42 at ae HI0 HK HB aC aD aG hHeld ⊢;refine pU 0 60 (bAr 10 1) ?_;refine pU 1 61 (bAr 10 3) ?_;refine pU 2 62 (bAr 10 7) ?_;refine pU 3 63 (bAr 10 15) ?_;refine pU 5 65 (bAr 10 47) ?_
              refine tK 4 64 (bAr 10 63) ?_
              refine one_ (i:=6) (N:=some 66) (bAr 10 127) rfl rfl (one_of HT_.out (by kernel_rfl)) (by decide) (fun K hK=>?_)
              refine goes_ Try.func63 (by kernel_rfl) rfl #[.int .i64 an] (by rfl) rfl rfl (by(try simp only[zg,List.map_cons,List.map_nil]);first|done|rfl|(simp only[zn,zd];rfl)) ?_
              with_reducible refine(spec_l01Pow.calls am an t451 _ A35.out).mono ?_
              rintro e w' ⟨rfl,⟨nd,rfl⟩⟩
              refine⟨_,rfl,?_⟩
              refine hK.out _ _ ⟨hHeld.1,hHeld.2.1,hHeld.2.2⟩ (fun hHeld=>?_);clear hK K
              refine norm_ (a':=?_) ?_ ?_;rotate_left
              · show Act.put _ (some 66) _=_
                simp only[Act.put,zE,zF,zG,i64_w,i32_w]
                rfl
              refine pU 7 67 (bAr 10 255) ?_;refine pU 8 68 (bAr 10 511) ?_;refine pU 9 9 (bAr 10 1023) ?_
              refine done_ (done_of HT_.out (by kernel_rfl)) ?_
              try go_wp2
              (try(rw[drewN_self w42];generalize hq_:World.drewN w42 _=w42;have n0_:Aside0 (Kd.B (Kd.int .u8) 5 w42 w.heap.size (fun _=>True) u4 af):=⟨by rw[← hq_];exact(by(with_reducible repeat (first|apply Kd.B_alloc|apply Kd.B_drewN|apply Kd.B_drew));exact ae.out)⟩;have n1_:Aside0 (IsS59 w0 w42 g s0_0 s0_1 ab):=⟨by rw[← hq_];exact iA⟩;have n2_:Aside0 (KeepBut w w42 g none):=⟨by rw[← hq_];exact(iL HK)⟩;have n3_:Aside0 (Below w0.heap.size w0 w42):=⟨by rw[← hq_];exact iC⟩;clear ae HI0 HK HB hq_;have ae:=n0_;have HI0:=n1_;have HK:=n2_;have HB:=n3_;clear n0_ n1_ n2_ n3_));replace ae:=aM (Kd.B_drew ae.out);replace HI0:=aM (IsS59.drew HI0.out);replace HK:=aM (keep_drew HK.out);replace HB:=aM (zy HB.out);obtain⟨dM,dO,cA⟩:=Kd.B_slice ae.out
              (first|subst cA|(injection cA with f1_ f2_ f3_;have f4_:=f1_.symm;have f5_:=f3_.symm;clear f1_ f2_ f3_;subst f4_;subst f5_));have b6:0≤((aj):Int):=bD;have b7:(aj)<(af.length:Int):=bD;obtain⟨cC,dn,aH⟩:=zV (Kd.B_reads' ae.out).2.2 (aj) b6 b7;cases dn;replace b6:=zB b6;replace b7:=zB b7
              refine start_ (n:=19) (S:=fun w'=>w'.cell? (cC.add ((aj)).toNat)=some (.int .u8 (rd af (aj)))) (ds:=[18]) (bAr 19 0) (by kernel_rfl) rfl rfl (aH) (fun hHeld=>?_);refine with_tabW spec_l09All.tab15 spec_l09All.bits15 (fun HT_ HW_=>?_)
              generalize w42.drew=w43 at ae HI0 HK HB aH hHeld ⊢;refine pU 0 69 (bAr 19 1) ?_;refine pU 1 70 (bAr 19 3) ?_;refine pU 2 71 (bAr 19 7) ?_;refine pU 3 72 (bAr 19 15) ?_;refine pU 4 73 (bAr 19 31) ?_;refine pU 5 74 (bAr 19 63) ?_;refine pU 6 75 (bAr 19 127) ?_;refine pU 7 76 (bAr 19 255) ?_;refine pU 8 77 (bAr 19 511) ?_;refine pU 10 79 (bAr 19 1535) ?_;refine pU 11 80 (bAr 19 3583) ?_;refine pU 12 81 (bAr 19 7679) ?_
              refine tK 9 78 (bAr 19 8191) ?_
              refine one_ (i:=13) (N:=some 82) (bAr 19 16383) rfl rfl (one_of HT_.out (by kernel_rfl)) (by decide) (fun K hK=>?_)
              refine goes_ Try.func63 (by kernel_rfl) rfl #[.int .i64 (Int.tmod ah 8)] (by rfl) rfl rfl (by(try simp only[zg,List.map_cons,List.map_nil]);first|done|rfl|(simp only[zn,zd];rfl)) ?_
              with_reducible refine(spec_l01Pow.calls am (Int.tmod ah 8) t453 _ A40.out).mono ?_
              rintro e w' ⟨rfl,⟨nd,rfl⟩⟩
              refine⟨_,rfl,?_⟩;have p41:0≤((aj):Int):=bD;have q41:((aj):Int)<((af.length:Int):Int):=bD;obtain⟨go41,dP,cD,cE,gl41,cl41,HG41⟩:=Kd.B_form ae.out (by omega)
              (first|cases cD|(injection cD with ea_ en_ ec_;(first|subst ea_|(injection ea_ with ea_;subst ea_));subst ec_;clear en_));have cF:=aM cE;have dR:=aM HG41;clear cE gl41 HG41
              (first|simp only[add_plain]at aH|skip);obtain⟨dp,dq⟩:=Kd.B_celln 0 ae.out ((aj):Int) p41 q41;replace p41:=zB p41;replace q41:=zB q41;have HN0_go41:=aM (show g≠go41 from by have h_:=IsS59.own_neB HI0.out ae.out (by decide);intro e_;exact h_ (by rw[e_];rfl));have bO:=Kd.B_putn ae.out ((aj):Int) (((rd af (aj))+((wrap64 ((Int.tmod (wrap64 (Int.tdiv ((rd_T62 l1 aa).f0) t451)) 2)*t453)) % 256)) % 256) (of_eq_true p41) (of_eq_true q41)
              rw[← cy.out]at bO
              (try rw[show((rd af (aj))+((wrap64 ((Int.tmod (wrap64 (Int.tdiv ((rd_T62 l1 aa).f0) t451)) 2)*t453)) % 256)) % 256=((rd af (aj))+(wrap64 ((Int.tmod (wrap64 (Int.tdiv ((rd_T62 l1 aa).f0) t451)) 2)*t453))) % 256 from by omega]at bO);have HQ45:=aM bO;clear bO
              refine hK.out _ _ (hHeld) (fun hHeld=>?_);clear hK K
              refine norm_ (a':=?_) ?_ ?_;rotate_left
              · show Act.put _ (some 82) _=_
                simp only[Act.put,zE,zF,zG,i64_w,i32_w]
                rfl
              refine pU 14 83 (bAr 19 32767) ?_;refine pU 15 84 (bAr 19 65535) ?_;refine pU 16 85 (bAr 19 131071) ?_;refine pU 17 86 (bAr 19 262143) ?_
              refine last_ (i:=18) (N:=none) (bAr 19 524287) rfl rfl (one_of HT_.out (by kernel_rfl)) (by decide) (fun K hK=>?_)
              refine skip_ (w1:=?_) (by rfl) rfl ?_ ?_;rotate_left
              · go_simp
                rfl
              refine hK.out _ _ ?_;clear hK K
              refine done_ (done_of HT_.out (by kernel_rfl)) ?_
              try go_wp2
              go_roundg am
              case measure=>have:=HK1.out;have:=HK2.out;have:=HJ13.out;omega
              case rel=>exact⟨(cx),(wrap64 (ah+1)),(wrap64 (ak+1)),eQ,eQ,H',⟨by have:=HK1.out;have:=HK2.out;have:=HJ13.out;omega⟩,⟨by(with_reducible repeat (first|apply Kd.B_alloc|apply Kd.B_drewN|apply Kd.B_drew));exact HQ45.out⟩,⟨iA⟩,⟨by repeat (first|(with_reducible first|exact HK.out|apply KeepBut.set_|apply keep_drewN|apply keep_drew|apply keep_alloc|refine keep_far ?_ cF.out _)|exact HK.out)⟩,⟨by repeat (first|(with_reducible first|exact HB.out|apply zz|apply zx|apply zy|refine below_set ?_ (za HL.out cF.out)|refine below_set ?_ (IsS59.ge HI0.out))|exact HB.out)⟩⟩
       · intro H;revert H
         refine ifB (fun c46=>?_) (fun c46=>?_)
         · intro H;have cG:=zN c46;have cH:decide (12000<af.length)=true:=zN (by omega);clear c46;simp only[zL,zM]at H;obtain⟨rfl,rfl,rfl⟩:=H;have ao:0≤(aa:Int):=bD;have ap:aa<(l1.length:Int):=bD;obtain⟨ac,bu,au,av,aw⟩:=at_T62 (Kd.C_foot_now HR1.out HK.out) aa ao ap;cases bu;replace ao:=zB ao;replace ap:=zB ap;obtain⟨dS,dT,dt⟩:=Kd.B_slice ae.out;subst dt;obtain⟨aq,hgz48⟩:=HI0.out;have cO:=cellS59_0 aq;have cP:=cellS59_1 aq;have cQ:=cellS59_2 aq;have cR:=zS aq 0;have cS:=zS aq 1;have cT:=zS aq 2;clear aq hgz48;go_wp2
           first|go_end0|((try simp only[Exit.inBlock,Exit.then]);refine bodyPost_ret (results_none rfl _ _ _) rfl ?_)
           exact⟨eE,iA,iC,(iL HK)⟩
         · intro H;have cG:=zO c46;have cH:decide (12000<af.length)=false:=zO (by omega);clear c46;revert H;refine adR fun H'=>?_;have ao:0≤(aa:Int):=bD;have ap:aa<(l1.length:Int):=bD;obtain⟨ac,bu,au,av,aw⟩:=at_T62 (Kd.C_foot_now HR1.out HK.out) aa ao ap;cases bu;replace ao:=zB ao;replace ap:=zB ap;obtain⟨dU,dV,du⟩:=Kd.B_slice ae.out;subst du;go_wp2;go_roundg k2
           case measure=>have:=HK1.out;have:=HK2.out;omega
           case rel=>exact⟨(af),(ah),(wrap64 (aa+1)),(ab),eQ,eQ,H',⟨by have:=HK1.out;have:=HK2.out;omega⟩,⟨by(with_reducible repeat (first|apply Kd.B_alloc|apply Kd.B_drewN|apply Kd.B_drew));exact ae.out⟩,⟨iA⟩,⟨(iL HK)⟩,⟨iC⟩⟩
    · intro H;simp only[zL,zM]at H;obtain⟨rfl,rfl,rfl⟩:=H;have hcv50:=Kd.B_string (P:=Try.prog) Try.underlying36 Try.underlying5 Try.underlying9 ae.out;obtain⟨ar,hgz51⟩:=HI0.out;have cU:=cellS59_0 ar;have cW:=cellS59_1 ar;have cX:=cellS59_2 ar;have cY:=zS ar 0;have cZ:=zS ar 1;have da:=zS ar 2;clear ar hgz51;go_wp2
      first|go_end0|((try simp only[Exit.inBlock,Exit.then]);refine bodyPost_ret (results_none rfl _ _ _) rfl ?_)
      exact⟨eE,iA,iC,(iL HK)⟩
end Go.Proofs.Ytldiiicbgdfapaa.PFnExactWovenBlock
