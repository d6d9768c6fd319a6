/- Walks of functions that the law reaches: each call comes to what the Lean function of its name tells. -/
import Derived.Test.YtldiiicbgdfapaaPFnExactWovenBlockx15
namespace Go.Proofs.Ytldiiicbgdfapaa.PFnExactWovenBlock
open Go.RowKit Go.Proofs.YtldiiicbgdfapaaW.PrintWords Go.Proofs.YtldiiicbgdfapaaW.PrintLast Go.Proofs.YtldiiicbgdfapaaW.PrintMore
attribute [local go_sem] max2_int min2_int max_two min_two max_three min_three max_four min_four
set_option linter.unusedVariables false
set_option maxHeartbeats 8000000
set_option maxRecDepth 100000
set_option linter.unusedSimpArgs false
def impl_nextCoins.l0:Nat→List (S141)→List (S141)→Int→Option ((List (S141)))
  | 0,_,_,_=>none
  | k+1,x1,x5,x6=>if(wrap64 (x6+1))<(x1.length:Int)then(if 0≤x6 then(if x6<(x1.length:Int)then(if 0≤(wrap64 (x6+1))then((slices_Concat_int_int.f ((rd_T141 x1 x6).f1) ((rd_T141 x1 (wrap64 (x6+1))).f1)).bind fun t601=>(if x5.length<4398046511104 then(impl_nextCoins.l0 k x1 (x5++[(⟨wrap64 (((rd_T141 x1 x6).f0)+((rd_T141 x1 (wrap64 (x6+1))).f0)),t601⟩:S141)]) (wrap64 (x6+2)))else(none)))else(none))else(none))else(none))else((impl_coin.f x5 ()).bind fun t607=>(some t607))
def impl_nextCoins.f (k:Nat) (l0:List (S141)) (l1:List (S141)):Option ((List (S141))):=(some (([]:List (S141)):List (S141))).bind fun aG=>(if aG.length+l0.length<4398046511104 then(impl_nextCoins.l0 k l1 (aG++l0) 0)else(none))
def impl_nextCoins.T5:Bool×List (List Nat×List Nat):=(true,[([],[]),([],[]),([0,1],[0,1]),([2],[2]),([],[]),([],[]),([5],[5]),([4,6],[4,6]),([7],[7]),([],[]),([],[]),([9,3,0,1,2,3,9,10],[3,9]),([10,8,11,0,1,2,3,4,5,6,7,8,9,10,11],[8,10])])
def impl_nextCoins.B5:List Nat:=[0,0,3,7,0,0,32,112,240,0,0,1551,4095]
theorem impl_nextCoins.tab5:rtab .any (opsOf Try.f101 5)=impl_nextCoins.T5:=by kernel_rfl
theorem impl_nextCoins.bits5:waitsOk impl_nextCoins.T5.2 impl_nextCoins.B5=true:=by kernel_rfl
def impl_nextCoins.T6:Bool×List (List Nat×List Nat):=(true,[([],[]),([],[]),([1],[1]),([],[]),([3],[3]),([2,4],[2,4]),([],[]),([6],[6]),([],[]),([8],[8]),([7,9],[7,9]),([10],[10]),([5,11],[5,11]),([12],[12]),([0,13,11],[0,13]),([14,14,0,1,2,3,4,5,6,7,8,9,10,11,12,13,14],[0,14])])
def impl_nextCoins.B6:List Nat:=[0,0,2,0,8,30,0,64,0,256,960,1984,4094,8190,16383,32767]
theorem impl_nextCoins.tab6:rtab .any (opsOf Try.f101 6)=impl_nextCoins.T6:=by kernel_rfl
theorem impl_nextCoins.bits6:waitsOk impl_nextCoins.T6.2 impl_nextCoins.B6=true:=by kernel_rfl
theorem impl_nextCoins.calls (k:Nat) (P0_:Nat→Prop) (A0:Option Addr) (c0:Nat) (l0:List (S141)) (A1:Option Addr) (c1:Nat) (l1:List (S141)) (r:List (S141)) (w:World) (hs0:Kd.V k141 141 w w.heap.size (fun k_=>P0_ k_) (.slice A0 l0.length c0) l0) (hr1:Kd.C k141 w A1 l1.length l1) (hc1:l1.length≤c1) (h:impl_nextCoins.f k l0 l1=some r) :
 Calls Try.prog 101 #[.slice A0 l0.length c0,.slice A1 l1.length c1] w fun e w' => ∃ v0_:Value,e = .returned (v0_)∧Kd.N k141 141 w' w.heap.size (fun k_=>(P0_ k_∨w.heap.size≤k_)) v0_ r∧Below w.heap.size w w':=by
 have hu141:=Try.underlying141;have HO0:=aM (show Kd.V k141 141 w w.heap.size (fun k_=>(P0_ k_∨w.heap.size≤k_)) (.slice A0 l0.length c0) l0 from zl hs0 (fun k_ hk=> .inl hk));have HR1:=aM hr1;have HC1:=aM hc1;clear hr1 hc1;have HB:=aM (zQ w.heap.size w);have H:((some (([]:List (S141)):List (S141))).bind fun aG=>(if aG.length+l0.length<4398046511104 then(impl_nextCoins.l0 k l1 (aG++l0) 0)else(none)))=some r:=h;clear h;obtain⟨aG,hy_⟩:∃ y_:List (S141),y_=(([]:List (S141))):=⟨_,rfl⟩;replace H:(if aG.length+l0.length<4398046511104 then(impl_nextCoins.l0 k l1 (aG++l0) 0)else(none))=some r:=nH;have aZ:=aM hy_;clear hy_;revert H;refine ifR fun c3=>?_;intro H;have bO:=aM c3;clear c3;obtain⟨bj,hy_⟩:∃ y_:List (S141),y_=(aG++l0):=⟨_,rfl⟩;replace H:(impl_nextCoins.l0 k l1 bj 0)=some r:=nH;have bk:=aM hy_;clear hy_;revert H;refine adR fun H'=>?_;go_enter Try.func101,Try.ntmps101
 go_wp2_with (first|((with_reducible refine gD 9 ?_);refine Kd.N_lit k141 _ 141 ?hg (N':=9) ?hd (xs:=([]:List (S141))) (inner:=[]) (ok:=(fun k_=>(P0_ k_∨w.heap.size≤k_))) (okp:=(fun k_=>(P0_ k_∨w.heap.size≤k_))) ?hr ?hp (fun _ hk=>hk) ((show ∀ k_,w.heap.size≤k_→(fun k_=>(P0_ k_∨w.heap.size≤k_)) k_ from fun k_ hk=>(.inr (za (zD hB) hk))) _ (zI _)) (zQ _ _) (zI _) (by simp) ?_;(case hd=>rfl);(case hg=>rfl);(case hr=>first|(go_simp;done)|(go_simp;rfl));(case hp=>exact(Reps.none _ _));intro be w4 ho5 hb hg_ hnew_;clear hg_ hnew_;(first|rw[← aZ.out]at ho5|(simp only[Int.reduceToNat]at ho5;rw[← aZ.out]at ho5));replace HO0:=aM (Kd.V_elder' (z1 HO0.out) (Kd.N_base ho5) hb);have bb:=aM (z3 ho5 (zD hB));replace HB:=hS hb;clear hb ho5)|((with_reducible refine gate_builtin (b:=.append) (xs:=#[.tmp 9,.tmp 10]) rfl ?_);at_builtin;refine Kd.N_append_rows k141 (w0:=w) w.heap.size rfl (.tmp 9) (.tmp 10) 138 141 (.agg #[(.int .i64 0),(.slice none 0 0)]) 32 rfl Try.underlying138 info141 rfl (by decide) (by omega) be aG l0 _ _ _ (fun k_=>(P0_ k_∨w.heap.size≤k_)) (fun k_=>((fun k_=>(P0_ k_∨w.heap.size≤k_))) k_∧some k_≠(be:Value).ownBlock) rfl rfl ?aO ?aR (fun _ hk=>hk) ?aF ?aB ?aS ?aL ?_;(case aR=>exact(by skip;exact Kd.V_F (zl (ok':=(fun k_=>((fun k_=>(P0_ k_∨w.heap.size≤k_))) k_∧some k_≠(be:Value).ownBlock)) (HO0.out) (fun k_ hk=>⟨hk.1,hk.2⟩))));(case aB=>exact hB);(case aF=>exact(fun k_ hk=>(.inr (za (zD hB) hk))));(case aO=>exact(zc bb.out));(case aS=>exact(zD hB));(case aL=>have:=bO.out;omega);intro b6 w6 ho hb hg hat;rw[← bk.out]at ho;replace HO0:=aM (zh (ok:=(fun k_=>(P0_ k_∨w.heap.size≤k_))) (z1 HO0.out) hg hat);replace HB:=aM hb;have bl:=aM ho;clear bb;clear ho hb hg hat))
 go_loopg [5,6] k (fun kq v5 v6 w' => ∃ (ay:List (S141)) (ac:Int),v6 = .int .i64 ac∧Aside0 (impl_nextCoins.l0 kq l1 ay ac=some r)∧Aside0 (kq≤k)∧Aside0 (Kd.N k141 141 w' w.heap.size (fun k_=>(P0_ k_∨w.heap.size≤k_)) v5 ay)∧Aside0 (Below w.heap.size w w'))
 case atStart=>exact⟨(bj),(0),eQ,H',⟨zI _⟩,⟨zc bl.out⟩,⟨hB⟩⟩
 case round =>
  clear H';(try clear c1);(try clear p2);(try clear c3);obtain⟨ay,ac,rfl,HA,HK1,ah,HB⟩:=hrel;rcases gk with _|k1
  · exact absurd HA.out (by simp[impl_nextCoins.l0])
  revert HA;refine aoR ?_;intro H;simp only[impl_nextCoins.l0]at H;revert H
  refine iB (fun bn=>?_) (fun bn=>?_)
  · refine iR fun b7=>?_;refine iR fun b8=>?_;intro H;obtain⟨ag,aH⟩:∃ j_:Int,(wrap64 (ac+1))=j_:=⟨_,rfl⟩;replace H:(if 0≤(ag)then((slices_Concat_int_int.f ((rd_T141 l1 ac).f1) ((rd_T141 l1 (ag)).f1)).bind fun t601=>(if ay.length<4398046511104 then(impl_nextCoins.l0 k1 l1 (ay++[(⟨wrap64 (((rd_T141 l1 ac).f0)+((rd_T141 l1 (ag)).f0)),t601⟩:S141)]) (wrap64 (ac+2)))else(none)))else(none))=some r:=by first|(rw[aH]at H;exact H)|(simp only[aH]at H ⊢;exact H)
    (try rw[aH]at bn);have bP:(IntKind.i64.wrap (ac+1))=ag:=(i64_w _).trans aH;revert H;refine iR fun bV=>?_;refine bdR fun t601 A12=>?_;refine ifR fun c13=>?_;intro H;have bo:=aM c13;clear c13;obtain⟨bq,hy_⟩:∃ y_:List (S141),y_=(ay++[(⟨wrap64 (((rd_T141 l1 ac).f0)+((rd_T141 l1 (ag)).f0)),t601⟩:S141)]):=⟨_,rfl⟩;replace H:(impl_nextCoins.l0 k1 l1 bq (wrap64 (ac+2)))=some r:=nH;have br:=aM hy_;clear hy_;revert H;refine adR fun H'=>?_
    try go_wp2
    replace ah:=aM (Kd.N_drew ah.out);replace HB:=aM (zy HB.out);have bf:0≤(ac:Int):=bD;have bg:ac<(l1.length:Int):=bD;obtain⟨ak,am,an,bQ,az,aA,aI,aJ⟩:=at_T141 HR1.out ac bf bg;have aq:=aA;have ar:=az;cases bQ;replace az:=cB0 HB az;replace aA:=cB0 HB aA;have aK:=aM aJ;have aX:=aM aI;clear aJ aI;replace bf:=zB bf;replace bg:=zB bg;have bh:0≤((ag):Int):=bD;have bi:(ag)<(l1.length:Int):=bD;obtain⟨bu,ao,ap,bR,aC,aD,aN,aQ⟩:=at_T141 HR1.out (ag) bh bi;have au:=aD;have av:=aC;obtain rfl:ak=bu:=(by injection bR);replace aC:=cB0 HB aC;replace aD:=cB0 HB aD;have aT:=aM aQ;have aY:=aM aN;clear aQ aN;replace bh:=zB bh;replace bi:=zB bi
    refine start_ (n:=13) (S:=fun w'=>w'.cell? (ak.add ((ac).toNat*2))=some (.int .i64 ((rd_T141 l1 ac).f0))∧w'.cell? ⟨(ak.add ((ac).toNat*2)).block,(ak.add ((ac).toNat*2)).off+1,none⟩=some (.slice am ((rd_T141 l1 ac).f1).length an)∧w'.cell? (ak.add (((ag)).toNat*2))=some (.int .i64 ((rd_T141 l1 (ag)).f0))∧w'.cell? ⟨(ak.add (((ag)).toNat*2)).block,(ak.add (((ag)).toNat*2)).off+1,none⟩=some (.slice ao ((rd_T141 l1 (ag)).f1).length ap)) (ds:=[]) (bAr 13 0) (by kernel_rfl) rfl rfl ⟨(cB HB ar),(cB HB aq),(cB HB av),(cB HB au)⟩ (fun hHeld=>?_);refine with_tabW impl_nextCoins.tab5 impl_nextCoins.bits5 (fun HT_ HW_=>?_)
    generalize wr.drew=w14 at ah HB aK aT az aA aC aD hHeld ⊢;refine pU 0 19 (bAr 13 1) ?_;refine pU 1 20 (bAr 13 3) ?_;refine pU 2 21 (bAr 13 7) ?_;refine pU 4 23 (bAr 13 23) ?_;refine pU 5 24 (bAr 13 55) ?_;refine pU 6 25 (bAr 13 119) ?_;refine pU 7 26 (bAr 13 247) ?_
    refine tK 3 22 (bAr 13 255) ?_
    refine tK 8 27 (bAr 13 511) ?_
    refine join_ (σ:=Nat×Nat) 2 #[true,true,true,true,true,true,true,true,true,true,true,false,false] (fun s_=>[(7,.pointer (some ⟨s_.1,0,none⟩)),(8,.pointer (some ⟨s_.2,0,none⟩))]) (fun s_ w'=>(w'.cell? (ak.add ((ac).toNat*2))=some (.int .i64 ((rd_T141 l1 ac).f0))∧w'.cell? ⟨(ak.add ((ac).toNat*2)).block,(ak.add ((ac).toNat*2)).off+1,none⟩=some (.slice am ((rd_T141 l1 ac).f1).length an)∧w'.cell? (ak.add (((ag)).toNat*2))=some (.int .i64 ((rd_T141 l1 (ag)).f0))∧w'.cell? ⟨(ak.add (((ag)).toNat*2)).block,(ak.add (((ag)).toNat*2)).off+1,none⟩=some (.slice ao ((rd_T141 l1 (ag)).f1).length ap))∧(Kd.N k141 141 w' w.heap.size (fun k_=>(P0_ k_∨w.heap.size≤k_)∧k_≠s_.1∧k_≠s_.2) u5 ay)∧(w'.heap[s_.1]? = some (.cells #[.int .i64 0,.slice none 0 0] 141 (0,0)))∧(w'.heap[s_.2]? = some (.cells #[.int .i64 0,.slice none 0 0] 141 (0,0)))∧(w.heap.size≤s_.1)∧(w.heap.size≤s_.1)∧(s_.2≠s_.1)∧(s_.1≠s_.2)∧(w.heap.size≤s_.2)∧(w.heap.size≤s_.2)∧(Below w.heap.size w w')) ?_ ?_;rotate_left
    · intro hCont
      refine two_ (i:=9) (j:=10) (Ni:=some 7) (Nj:=some 8) (bAr 13 1023) (bAr 13 1535) rfl rfl rfl rfl (two_of HT_.out (by kernel_rfl)) (by decide) (by decide) (fun K hK=>?_) (fun K hK=>?_)
      · skip
        refine box_step ?hg (N:=7) ?hd (cs:=#[.int .i64 0,.slice none 0 0]) (t:=141) ?hr ?_;(case hd=>rfl);(case hg=>rfl);(case hr=>first|(go_simp;done)|(go_simp;rfl));intro aa hg w15 hbox hb;replace ah:=aM (Kd.N_below (Kd.N_elderB (zc ah.out) aa (Nat.le_of_eq hg.symm)) hb);have ae:=aM hbox;have aw:=aM (sZ hg);have aU:=aM (sZ hg);replace HB:=hS hb;clear hb hbox hg
        refine hK.out _ _ ⟨(cB HB ar),(cB HB aq),(cB HB av),(cB HB au)⟩ (fun hHeld=>?_);clear hK K
        refine norm_ (a':=?_) ?_ ?_;rotate_left
        · show Act.put _ (some 7) _=_
          simp only[Act.put,zE,zF,zG,i64_w,i32_w]
          rfl
        refine one_ (i:=10) (N:=some 8) (bAr 13 2047) rfl rfl (one_of HT_.out (by kernel_rfl)) (by decide) (fun K hK=>?_)
        refine box_step ?hg (N:=8) ?hd (cs:=#[.int .i64 0,.slice none 0 0]) (t:=141) ?hr ?_;(case hd=>rfl);(case hg=>rfl);(case hr=>first|(go_simp;done)|(go_simp;rfl));intro ab hg w16 hbox hb;replace ah:=aM (Kd.N_below (Kd.N_elderB (zc ah.out) ab (Nat.le_of_eq hg.symm)) hb);have af:=aM hbox;have ax:=aM (sZ hg);have aV:=aM (sZ hg);replace HB:=hS hb;have ai:=aM (nL ae hg);have aj:=aM (nG ae hg);replace ae:=bW ae hb;clear hb hbox hg
        refine hK.out _ _ ⟨(cB HB ar),(cB HB aq),(cB HB av),(cB HB au)⟩ (fun hHeld=>?_);clear hK K
        refine norm_ (a':=?_) ?_ ?_;rotate_left
        · show Act.put _ (some 8) _=_
          simp only[Act.put,zE,zF,zG,i64_w,i32_w]
          rfl
        exact norm_ (by simp only[putAll,Act.put,zE,zF,zG]) (hCont (aa,ab) _ ⟨hHeld,(zc (zr ah.out (fun _ hk=>⟨hk.1.1,⟨hk.1.2,hk.2⟩⟩))),(bI ae.out),(bI af.out),aw.out,aU.out,aj.out,ai.out,ax.out,aV.out,hB⟩)
      · skip
        refine box_step ?hg (N:=8) ?hd (cs:=#[.int .i64 0,.slice none 0 0]) (t:=141) ?hr ?_;(case hd=>rfl);(case hg=>rfl);(case hr=>first|(go_simp;done)|(go_simp;rfl));intro ab hg w15 hbox hb;replace ah:=aM (Kd.N_below (Kd.N_elderB (zc ah.out) ab (Nat.le_of_eq hg.symm)) hb);have af:=aM hbox;have ax:=aM (sZ hg);have aV:=aM (sZ hg);replace HB:=hS hb;clear hb hbox hg
        refine hK.out _ _ ⟨(cB HB ar),(cB HB aq),(cB HB av),(cB HB au)⟩ (fun hHeld=>?_);clear hK K
        refine norm_ (a':=?_) ?_ ?_;rotate_left
        · show Act.put _ (some 8) _=_
          simp only[Act.put,zE,zF,zG,i64_w,i32_w]
          rfl
        refine one_ (i:=9) (N:=some 7) (bAr 13 2047) rfl rfl (one_of HT_.out (by kernel_rfl)) (by decide) (fun K hK=>?_)
        refine box_step ?hg (N:=7) ?hd (cs:=#[.int .i64 0,.slice none 0 0]) (t:=141) ?hr ?_;(case hd=>rfl);(case hg=>rfl);(case hr=>first|(go_simp;done)|(go_simp;rfl));intro aa hg w16 hbox hb;replace ah:=aM (Kd.N_below (Kd.N_elderB (zc ah.out) aa (Nat.le_of_eq hg.symm)) hb);have ae:=aM hbox;have aw:=aM (sZ hg);have aU:=aM (sZ hg);replace HB:=hS hb;have aj:=aM (nL af hg);have ai:=aM (nG af hg);replace af:=bW af hb;clear hb hbox hg
        refine hK.out _ _ ⟨(cB HB ar),(cB HB aq),(cB HB av),(cB HB au)⟩ (fun hHeld=>?_);clear hK K
        refine norm_ (a':=?_) ?_ ?_;rotate_left
        · show Act.put _ (some 7) _=_
          simp only[Act.put,zE,zF,zG,i64_w,i32_w]
          rfl
        exact norm_ (by simp only[putAll,Act.put,zE,zF,zG]) (hCont (aa,ab) _ ⟨hHeld,(zc (zr ah.out (fun _ hk=>⟨hk.1.1,⟨hk.2,hk.1.2⟩⟩))),(bI ae.out),(bI af.out),aw.out,aU.out,aj.out,ai.out,ax.out,aV.out,hB⟩)
    rintro⟨aa,ab⟩ w17 ⟨hS_,h0_,h1_,h2_,h3_,h4_,h5_,h6_,h7_,h8_,h9_⟩;have n0_:Aside0 (Kd.N k141 141 w17 w.heap.size (fun k_=>(P0_ k_∨w.heap.size≤k_)∧k_≠aa∧k_≠ab) u5 ay):=⟨h0_⟩;have n1_:Aside0 (w17.heap[aa]? = some (.cells #[.int .i64 0,.slice none 0 0] 141 (0,0))):=⟨h1_⟩;have n2_:Aside0 (w17.heap[ab]? = some (.cells #[.int .i64 0,.slice none 0 0] 141 (0,0))):=⟨h2_⟩;have n3_:Aside0 (w.heap.size≤aa):=⟨h3_⟩;have n4_:Aside0 (w.heap.size≤aa):=⟨h4_⟩;have n5_:Aside0 (ab≠aa):=⟨h5_⟩;have n6_:Aside0 (aa≠ab):=⟨h6_⟩;have n7_:Aside0 (w.heap.size≤ab):=⟨h7_⟩;have n8_:Aside0 (w.heap.size≤ab):=⟨h8_⟩;have n9_:Aside0 (Below w.heap.size w w17):=⟨h9_⟩;clear ah;clear HB;clear h0_ h1_ h2_ h3_ h4_ h5_ h6_ h7_ h8_ h9_;have ah:=n0_;have ae:=n1_;have af:=n2_;have aw:=n3_;have aU:=n4_;have aj:=n5_;have ai:=n6_;have ax:=n7_;have aV:=n8_;have HB:=n9_;clear n0_ n1_ n2_ n3_ n4_ n5_ n6_ n7_ n8_ n9_;have hHeld:w17.cell? (ak.add ((ac).toNat*2))=some (.int .i64 ((rd_T141 l1 ac).f0))∧w17.cell? ⟨(ak.add ((ac).toNat*2)).block,(ak.add ((ac).toNat*2)).off+1,none⟩=some (.slice am ((rd_T141 l1 ac).f1).length an)∧w17.cell? (ak.add (((ag)).toNat*2))=some (.int .i64 ((rd_T141 l1 (ag)).f0))∧w17.cell? ⟨(ak.add (((ag)).toNat*2)).block,(ak.add (((ag)).toNat*2)).off+1,none⟩=some (.slice ao ((rd_T141 l1 (ag)).f1).length ap):=hS_
    refine norm_ (a':=?_) ?_ ?_;rotate_left
    · simp only[putAll,Act.put,zE,zF,zG]
      rfl
    refine one_ (i:=11) (N:=none) (bAr 13 4095) rfl rfl (one_of HT_.out (by kernel_rfl)) (by decide) (fun K hK=>?_);have hs18:w17.cell? ⟨aa,0,none⟩=some (.int .i64 0):=bC ae 0;have bX:=zS ae.out 0;have bA:=aj.out;have bF:=ai.out;have hs19:w17.cell? ⟨aa,1,none⟩=some (.slice none 0 0):=bC ae 1;have bY:=zS ae.out 1;have bG:=aj.out;have bH:=ai.out
    refine skip_ (w1:=?_) (by rfl) rfl ?_ ?_;rotate_left
    · go_simp
      rfl
    refine hK.out _ _ ⟨((ZF (p:=⟨aa,_,none⟩) (nE (Nat.ne_of_lt (bL ar aw.out))) _).trans (((ZF (p:=⟨aa,_,none⟩) (nE (Nat.ne_of_lt (bL ar aw.out))) _).trans (hHeld.1)))),((ZF (p:=⟨aa,_,none⟩) (nE (Nat.ne_of_lt (bL aq aw.out))) _).trans (((ZF (p:=⟨aa,_,none⟩) (nE (Nat.ne_of_lt (bL aq aw.out))) _).trans (hHeld.2.1)))),((ZF (p:=⟨aa,_,none⟩) (nE (Nat.ne_of_lt (bL av aw.out))) _).trans (((ZF (p:=⟨aa,_,none⟩) (nE (Nat.ne_of_lt (bL av aw.out))) _).trans (hHeld.2.2.1)))),((ZF (p:=⟨aa,_,none⟩) (nE (Nat.ne_of_lt (bL au aw.out))) _).trans (((ZF (p:=⟨aa,_,none⟩) (nE (Nat.ne_of_lt (bL au aw.out))) _).trans (hHeld.2.2.2))))⟩ (fun hHeld=>?_);clear hK K
    refine one_ (i:=12) (N:=none) (bAr 13 8191) rfl rfl (one_of HT_.out (by kernel_rfl)) (by decide) (fun K hK=>?_);have hs20:w17.cell? ⟨ab,0,none⟩=some (.int .i64 0):=bC af 0;have bZ:=zS af.out 0;have bJ:=ai.out;have bK:=aj.out;have hs21:w17.cell? ⟨ab,1,none⟩=some (.slice none 0 0):=bC af 1;have b0:=zS af.out 1;have bM:=ai.out;have bN:=aj.out
    refine skip_ (w1:=?_) (by rfl) rfl ?_ ?_;rotate_left
    · go_simp
      rfl
    refine hK.out _ _ ⟨((ZF (p:=⟨ab,_,none⟩) (nE (Nat.ne_of_lt (bL ar ax.out))) _).trans (((ZF (p:=⟨ab,_,none⟩) (nE (Nat.ne_of_lt (bL ar ax.out))) _).trans (hHeld.1)))),((ZF (p:=⟨ab,_,none⟩) (nE (Nat.ne_of_lt (bL aq ax.out))) _).trans (((ZF (p:=⟨ab,_,none⟩) (nE (Nat.ne_of_lt (bL aq ax.out))) _).trans (hHeld.2.1)))),((ZF (p:=⟨ab,_,none⟩) (nE (Nat.ne_of_lt (bL av ax.out))) _).trans (((ZF (p:=⟨ab,_,none⟩) (nE (Nat.ne_of_lt (bL av ax.out))) _).trans (hHeld.2.2.1)))),((ZF (p:=⟨ab,_,none⟩) (nE (Nat.ne_of_lt (bL au ax.out))) _).trans (((ZF (p:=⟨ab,_,none⟩) (nE (Nat.ne_of_lt (bL au ax.out))) _).trans (hHeld.2.2.2))))⟩ (fun hHeld=>?_);clear hK K
    refine done_ (done_of HT_.out (by kernel_rfl)) ?_
    try go_wp2
    have n0_:Aside0 (Kd.N k141 141 ((((w17.setCell ⟨aa,0,none⟩ (.int .i64 ((rd_T141 l1 ac).f0))).setCell ⟨aa,1,none⟩ (.slice am ((rd_T141 l1 ac).f1).length an)).setCell ⟨ab,0,none⟩ (.int .i64 ((rd_T141 l1 (ag)).f0))).setCell ⟨ab,1,none⟩ (.slice ao ((rd_T141 l1 (ag)).f1).length ap)) w.heap.size (fun k_=>(P0_ k_∨w.heap.size≤k_)∧k_≠aa∧k_≠ab) u5 ay):=⟨zc (zr (Kd.N_far (p:=⟨ab,1,none⟩) (Kd.N_far (p:=⟨ab,0,none⟩) (Kd.N_far (p:=⟨aa,1,none⟩) (Kd.N_far (p:=⟨aa,0,none⟩) (zr (zr ah.out (fun k_ hk=>(⟨hk,hk.2.1⟩:_∧k_≠aa))) (fun k_ hk=>(⟨hk,hk.1.2.2⟩:_∧k_≠ab))) (fun _ hk=>hk.1.2) (.int .i64 ((rd_T141 l1 ac).f0))) (fun _ hk=>hk.1.2) (.slice am ((rd_T141 l1 ac).f1).length an)) (fun _ hk=>hk.2) (.int .i64 ((rd_T141 l1 (ag)).f0))) (fun _ hk=>hk.2) (.slice ao ((rd_T141 l1 (ag)).f1).length ap)) (fun _ hk=>⟨hk.1.1.1,⟨hk.1.1.2.1,hk.1.1.2.2⟩⟩))⟩;have n1_:Aside0 (((((w17.setCell ⟨aa,0,none⟩ (.int .i64 ((rd_T141 l1 ac).f0))).setCell ⟨aa,1,none⟩ (.slice am ((rd_T141 l1 ac).f1).length an)).setCell ⟨ab,0,none⟩ (.int .i64 ((rd_T141 l1 (ag)).f0))).setCell ⟨ab,1,none⟩ (.slice ao ((rd_T141 l1 (ag)).f1).length ap)).heap[aa]? = some (.cells #[.int .i64 ((rd_T141 l1 ac).f0),.slice am ((rd_T141 l1 ac).f1).length an] 141 (0,0))):=⟨kB⟩;have n2_:Aside0 (((((w17.setCell ⟨aa,0,none⟩ (.int .i64 ((rd_T141 l1 ac).f0))).setCell ⟨aa,1,none⟩ (.slice am ((rd_T141 l1 ac).f1).length an)).setCell ⟨ab,0,none⟩ (.int .i64 ((rd_T141 l1 (ag)).f0))).setCell ⟨ab,1,none⟩ (.slice ao ((rd_T141 l1 (ag)).f1).length ap)).heap[ab]? = some (.cells #[.int .i64 ((rd_T141 l1 (ag)).f0),.slice ao ((rd_T141 l1 (ag)).f1).length ap] 141 (0,0))):=⟨kB⟩;have n3_:Aside0 (Below w.heap.size w ((((w17.setCell ⟨aa,0,none⟩ (.int .i64 ((rd_T141 l1 ac).f0))).setCell ⟨aa,1,none⟩ (.slice am ((rd_T141 l1 ac).f1).length an)).setCell ⟨ab,0,none⟩ (.int .i64 ((rd_T141 l1 (ag)).f0))).setCell ⟨ab,1,none⟩ (.slice ao ((rd_T141 l1 (ag)).f1).length ap))):=⟨hB⟩;(try clear ah);(try clear ae);(try clear af);(try clear HB)
    generalize ((((w17.setCell ⟨aa,0,none⟩ (.int .i64 ((rd_T141 l1 ac).f0))).setCell ⟨aa,1,none⟩ (.slice am ((rd_T141 l1 ac).f1).length an)).setCell ⟨ab,0,none⟩ (.int .i64 ((rd_T141 l1 (ag)).f0))).setCell ⟨ab,1,none⟩ (.slice ao ((rd_T141 l1 (ag)).f1).length ap))=w22 at n0_ n1_ n2_ n3_ ⊢;have ah:=n0_;have ae:=n1_;have af:=n2_;have HB:=n3_;clear n0_ n1_ n2_ n3_;replace ah:=aM (Kd.N_drew ah.out);replace ae:=aM (z8 ae.out);replace af:=aM (z8 af.out);replace HB:=aM (zy HB.out)
    refine start_ (n:=16) (S:=fun w'=>w'.cell? ⟨aa,0,none⟩=some (.int .i64 ((rd_T141 l1 ac).f0))∧w'.cell? ⟨aa,1,none⟩=some (.slice am ((rd_T141 l1 ac).f1).length an)∧w'.cell? ⟨ab,0,none⟩=some (.int .i64 ((rd_T141 l1 (ag)).f0))∧w'.cell? ⟨ab,1,none⟩=some (.slice ao ((rd_T141 l1 (ag)).f1).length ap)) (ds:=[]) (bAr 16 0) (by kernel_rfl) rfl rfl ⟨bC ae 0,bC ae 1,bC af 0,bC af 1⟩ (fun hHeld=>?_);refine with_tabW impl_nextCoins.tab6 impl_nextCoins.bits6 (fun HT_ HW_=>?_)
    generalize w22.drew=w23 at ah ae af HB hHeld ⊢;refine pU 0 28 (bAr 16 1) ?_;refine pU 1 29 (bAr 16 3) ?_;refine pU 3 31 (bAr 16 11) ?_;refine pU 6 34 (bAr 16 75) ?_;refine pU 8 36 (bAr 16 331) ?_
    refine tK 2 30 (bAr 16 335) ?_
    refine tK 4 32 (bAr 16 351) ?_;refine pU 5 33 (bAr 16 383) ?_
    refine tK 7 35 (bAr 16 511) ?_
    refine tK 9 37 (bAr 16 1023) ?_
    refine one_ (i:=10) (N:=some 38) (bAr 16 2047) rfl rfl (one_of HT_.out (by kernel_rfl)) (by decide) (fun K hK=>?_)
    refine value_ (w1:=?_) (v:=?_) (by rfl) rfl ?_ ?_;rotate_left 2
    · go_simp
      constructor
      · rfl
      · rfl
    refine hK.out _ _ ⟨(blk_cell (z9 ae.out _) 0).trans rfl,(blk_cell (z9 ae.out _) 1).trans rfl,(blk_cell (z9 af.out _) 0).trans rfl,(blk_cell (z9 af.out _) 1).trans rfl⟩ (fun hHeld=>?_);clear hK K
    refine norm_ (a':=?_) ?_ ?_;rotate_left
    · show Act.put _ (some 38) _=_
      simp only[Act.put,zE,zF,zG,i64_w,i32_w]
      rfl
    refine one_ (i:=11) (N:=some 39) (bAr 16 4095) rfl rfl (one_of HT_.out (by kernel_rfl)) (by decide) (fun K hK=>?_)
    refine goes_ Try.func35 (by kernel_rfl) rfl #[.slice (some ⟨_,0,none⟩) 2 2] (by rfl) rfl rfl (by(try simp only[zg,List.map_cons,List.map_nil]);first|done|(simp only[aH];rfl)|rfl|(simp only[zn,zd];rfl)) ?_
    with_reducible refine(slices_Concat_int_int.calls _ _ ((rd_T141 l1 ac).f1) _ _ ((rd_T141 l1 (ag)).f1) t601 _ ?s1 ?s2 ?s3 ?s4 A12.out).mono ?_
    (case s1=>exact Kd.C_i (Kd.C_below aK.out HB.out))
    (case s2=>exact aX.out)
    (case s3=>exact Kd.C_i (Kd.C_below aT.out HB.out))
    (case s4=>exact aY.out)
    rintro e w24 ⟨b9,rfl,ho0,hb⟩
    refine⟨_,rfl,?_⟩;replace ah:=aM (z2 (zc ah.out) (ze ho0) hb);have aW:=aM (zb (Kd.R_newM (M:=fun k_=>(w.heap.size≤k_)) ho0 (zD hB) (fun k_ h_=>h_)) (zD hB));replace ae:=bW ae hb;replace af:=bW af hb;replace HB:=hS hb;obtain⟨bS,bT,bv⟩:=zY aW.out
    (first|subst bv|(injection bv with f1_ f2_ f3_;have f4_:=f1_.symm;have f5_:=f3_.symm;clear f1_ f2_ f3_;subst f4_;subst f5_))
    refine hK.out _ _ ⟨bC ae 0,bC ae 1,bC af 0,bC af 1⟩ (fun hHeld=>?_);clear hK K
    refine norm_ (a':=?_) ?_ ?_;rotate_left
    · show Act.put _ (some 39) _=_
      simp only[Act.put,zE,zF,zG,i64_w,i32_w]
      rfl
    refine pU 12 40 (bAr 16 8191) ?_
    refine one_ (i:=13) (N:=some 41) (bAr 16 16383) rfl rfl (one_of HT_.out (by kernel_rfl)) (by decide) (fun K hK=>?_)
    refine value_ (w1:=?_) (v:=?_) (by rfl) rfl ?_ ?_;rotate_left 2
    · go_simp
      constructor
      · rfl
      · rfl
    refine hK.out _ _ ⟨(blk_cell (z9 ae.out _) 0).trans rfl,(blk_cell (z9 ae.out _) 1).trans rfl,(blk_cell (z9 af.out _) 0).trans rfl,(blk_cell (z9 af.out _) 1).trans rfl⟩ (fun hHeld=>?_);clear hK K
    refine norm_ (a':=?_) ?_ ?_;rotate_left
    · show Act.put _ (some 41) _=_
      simp only[Act.put,zE,zF,zG,i64_w,i32_w]
      rfl
    refine one_ (i:=14) (N:=some 42) (bAr 16 32767) rfl rfl (one_of HT_.out (by kernel_rfl)) (by decide) (fun K hK=>?_)
    refine Kd.N_append_step k141 (w0:=w) w.heap.size (by rfl) (.tmp 28) (.tmp 41) 138 141 (.agg #[(.int .i64 0),(.slice none 0 0)]) 32 rfl Try.underlying138 info141 rfl (by decide) (by omega) u5 ay (⟨wrap64 (((rd_T141 l1 ac).f0)+((rd_T141 l1 (ag)).f0)),t601⟩:S141) [.int .i64 (wrap64 (((rd_T141 l1 ac).f0)+((rd_T141 l1 (ag)).f0))),.slice bS t601.length bT] (fun k_=>(P0_ k_∨w.heap.size≤k_)∧k_≠aa∧k_≠ab) (fun k_=>((fun k_=>(P0_ k_∨w.heap.size≤k_)∧k_≠aa∧k_≠ab)) k_∧some k_≠(u5:Value).ownBlock) rfl rfl ?aP (fun _ hk=>hk) ?aF ?aO ?aB ?aS ?aL ?_
    (case aP=>exact(k141_mkF _ _ (⟨wrap64 (((rd_T141 l1 ac).f0)+((rd_T141 l1 (ag)).f0)),t601⟩:S141) (zJ (zH (ok':=(fun k_=>((fun k_=>(P0_ k_∨w.heap.size≤k_)∧k_≠aa∧k_≠ab)) k_∧some k_≠(u5:Value).ownBlock)) (zj (zj (ZB (aW.out) (Kd.N_typed ah.out) (by decide)) ae.out (by decide)) af.out (by decide)) (fun k_ hk=>⟨⟨(.inr (hk.1.1.1.1)),⟨hk.1.2,hk.2⟩⟩,hk.1.1.2⟩))).2.1 (Kd.R_F (zH (ok':=(fun k_=>((fun k_=>(P0_ k_∨w.heap.size≤k_)∧k_≠aa∧k_≠ab)) k_∧some k_≠(u5:Value).ownBlock)) (zj (zj (ZB (aW.out) (Kd.N_typed ah.out) (by decide)) ae.out (by decide)) af.out (by decide)) (fun k_ hk=>⟨⟨(.inr (hk.1.1.1.1)),⟨hk.1.2,hk.2⟩⟩,hk.1.1.2⟩)))))
    (case aB=>exact hB)
    (case aF=>exact(fun k_ hk=>⟨(.inr (za (zD hB) hk)),Kd.freshB (g:=aa) (o:=.cells #[.int .i64 ((rd_T141 l1 ac).f0),.slice am ((rd_T141 l1 ac).f1).length an] 141 (0,0)) (bI ae.out) k_ hk,Kd.freshB (g:=ab) (o:=.cells #[.int .i64 ((rd_T141 l1 (ag)).f0),.slice ao ((rd_T141 l1 (ag)).f1).length ap] 141 (0,0)) (bI af.out) k_ hk⟩))
    (case aO=>exact(zc (zr ah.out (fun _ hk=>⟨hk.1.1,⟨hk.1.2.1,hk.1.2.2⟩⟩))))
    (case aS=>exact(zD hB))
    (case aL=>have:=bo.out;omega);intro ca w26 ho hb hg hat
    rw[← br.out]at ho;replace ae:=aM (zf (g:=aa) (o:=.cells #[.int .i64 ((rd_T141 l1 ac).f0),.slice am ((rd_T141 l1 ac).f1).length an] 141 (0,0)) (bI ae.out) hg (Kd.N_away ah.out (fun _ hk=>hk.1.2.1)));replace af:=aM (zf (g:=ab) (o:=.cells #[.int .i64 ((rd_T141 l1 (ag)).f0),.slice ao ((rd_T141 l1 (ag)).f1).length ap] 141 (0,0)) (bI af.out) hg (Kd.N_away ah.out (fun _ hk=>hk.1.2.2)));replace HB:=aM hb;have bw:=aM ho;clear ah aW;clear ho hb hg hat
    refine hK.out _ _ ⟨bC ae 0,bC ae 1,bC af 0,bC af 1⟩ (fun hHeld=>?_);clear hK K
    refine norm_ (a':=?_) ?_ ?_;rotate_left
    · show Act.put _ (some 42) _=_
      simp only[Act.put,zE,zF,zG,i64_w,i32_w]
      rfl
    refine pU 15 5 (bAr 16 65535) ?_
    refine done_ (done_of HT_.out (by kernel_rfl)) ?_
    try go_wp2
    go_roundg k1
    case measure=>have:=HK1.out;omega
    case rel=>exact⟨(bq),(wrap64 (ac+2)),eQ,H',⟨by have:=HK1.out;omega⟩,⟨zc (zr bw.out (fun _ hk=>hk.1))⟩,⟨hB⟩⟩
  · refine bdR fun t607 A27=>?_;intro H;obtain rfl:=zC H;obtain⟨bx,bz,bU⟩:=Kd.N_slice ah.out;subst bU
    go_wp2_with (first|(refine gL (some 44) Try.func112 #[.slice bx ay.length bz,.func (.func 115) #[] #[]] ?_;(with_reducible refine(impl_coin.calls_ 115 (by decide) (fun k_=>(P0_ k_∨w.heap.size≤k_)) (.slice bx ay.length bz) ay t607 w _ ?s1 ?s2 A27.out).mono ?_);(case s1=>exact hB);(case s2=>(with_reducible repeat (first|apply Kd.N_alloc|apply Kd.N_drewN|apply Kd.N_drew));exact ah.out);rintro e w29 ⟨rfl,hy0,hb,hkp⟩;refine⟨_,rfl,?_⟩;replace ah:=aM hy0;replace HB:=aM hb;clear hb;(try clear hkp);(try clear hy0)));go_ret;exact⟨_,eE,zc ah.out,hB⟩
end Go.Proofs.Ytldiiicbgdfapaa.PFnExactWovenBlock
