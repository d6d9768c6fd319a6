/- Walks of functions that the law reaches: each call comes to what the Lean function of its name tells. -/
import Derived.Test.YtldiiicbgdfapaaPFnExactWovenBlockx8
namespace Go.Proofs.Ytldiiicbgdfapaa.PFnExactWovenBlock
open Go.RowKit Go.Proofs.YtldiiicbgdfapaaW.PrintWords Go.Proofs.YtldiiicbgdfapaaW.PrintLast Go.Proofs.YtldiiicbgdfapaaW.PrintMore
attribute [local go_sem] max2_int min2_int max_two min_two max_three min_three max_four min_four
set_option linter.unusedVariables false
set_option maxHeartbeats 8000000
set_option maxRecDepth 100000
set_option linter.unusedSimpArgs false
def spec_l09Head.f (k:Nat) (a0_0:ByteArray) (a0_1:Int) (a1:Int) (a2:Bool):Option (ByteArray×Int×Bool):=(spec_OutOk.f k a0_0 a0_1).bind fun an=>(if a2=true then((spec_l09Put.f k a0_0 a0_1 (!an) 1 1 false).bind fun aw=>((spec_l09Put.f k aw.1 aw.2.1 aw.2.2 a1 2 false).bind fun ax=>(some (ax.1,ax.2.1,ax.2.2))))else((spec_l09Put.f k a0_0 a0_1 (!an) 0 1 false).bind fun ay=>((spec_l09Put.f k ay.1 ay.2.1 ay.2.2 a1 2 false).bind fun az=>(some (az.1,az.2.1,az.2.2)))))
theorem spec_l09Head.calls (k:Nat) (a0_0:ByteArray) (a0_1:Int) (a1:Int) (a2:Bool) (r1:ByteArray) (r2:Int) (r3:Bool) (w:World) (h:spec_l09Head.f k a0_0 a0_1 a1 a2=some (r1,r2,r3)) :
 Calls Try.prog 26 #[.agg #[.string a0_0,.int .i64 a0_1],.int .i64 a1,.bool a2] w fun e w'=>e = .returned (.agg #[.string r1,.int .i64 r2,.bool r3])∧Below w.heap.size w w':=by
 have hu27:=Try.underlying27;have hu59:=Try.underlying59;have HB:=aM (zQ w.heap.size w);unfold spec_l09Head.f at h;have H:=h;clear h;revert H;refine bdR fun an A4=>?_
 refine bB (fun c5=>?_) (fun c5=>?_)
 · intro H;subst c5;revert H;refine bdR fun⟨aD,aG,aH⟩ A6=>?_;intro H
   try dsimp only at H
   revert H;refine bdR fun⟨aI,aJ,aK⟩ A7=>?_;intro H
   try dsimp only at H
   simp only[zL,zM]at H;obtain⟨rfl,rfl,rfl⟩:=H;go_enter Try.func26,Try.ntmps26
   try go_wp2_with (first|(refine bE 3 #[.string a0_0,.int .i64 a0_1] 27 ?_;intro aj hg w8 hbox hb;have aa:=aM hbox;have aA:=aM (sZ hg);have aN:=aA;replace HB:=hS hb;clear hb hbox hg)|(refine bE 6 #[.string (⟨#[]⟩:ByteArray),.int .i64 0,.bool false] 59 ?_;intro ak hg w9 hbox hb;have ac:=aM hbox;have aC:=aM (sZ hg);have aQ:=aC;replace HB:=hS hb;have aq:=aM (nL aa hg);have ar:=aM (nG aa hg);replace aa:=bW aa hb;clear hb hbox hg))
   replace aa:=aM (z8 aa.out);replace ac:=aM (z8 ac.out);replace HB:=aM (zy HB.out)
   refine start_ (n:=7) (S:=fun w'=>w'.cell? ⟨aj,0,none⟩=some (.string a0_0)∧w'.cell? ⟨aj,1,none⟩=some (.int .i64 a0_1)) (ds:=[]) (bAr 7 0) (by kernel_rfl) rfl rfl ⟨bC aa 0,bC aa 1⟩ (fun hHeld=>?_)
   generalize w9.drew=w10 at aa ac HB hHeld ⊢
   refine tK 0 9 (bAr 7 1) ?_
   refine tK 1 10 (bAr 7 3) ?_
   refine join_ (σ:=Nat) 1 #[true,true,true,true,true,true,false] (fun s_=>[(11,.bool an),(7,.pointer (some ⟨s_,0,none⟩)),(12,.bool (!an)),(13,.agg #[.string a0_0,.int .i64 a0_1,.bool (!an)])]) (fun s_ w'=>(w'.cell? ⟨aj,0,none⟩=some (.string a0_0)∧w'.cell? ⟨aj,1,none⟩=some (.int .i64 a0_1))∧(w'.heap[aj]? = some (.cells #[.string a0_0,.int .i64 a0_1] 27 (0,0)))∧(w'.heap[ak]? = some (.cells #[.string (⟨#[]⟩:ByteArray),.int .i64 0,.bool false] 59 (0,0)))∧(w'.heap[s_]? = some (.cells #[.string (⟨#[]⟩:ByteArray),.int .i64 0,.bool false] 59 (0,0)))∧(w.heap.size≤s_)∧(w.heap.size≤s_)∧(aj≠s_)∧(s_≠aj)∧(ak≠s_)∧(s_≠ak)∧(Below w.heap.size w w')) ?_ ?_;rotate_left
   · intro hCont
     refine two_ (i:=2) (j:=5) (Ni:=some 11) (Nj:=some 7) (bAr 7 7) (bAr 7 35) rfl rfl rfl rfl (by kernel_rfl) (by decide) (by decide) (fun K hK=>?_) (fun K hK=>?_)
     · skip
       refine goes_ Try.func67 (by kernel_rfl) rfl #[.agg #[.string a0_0,.int .i64 a0_1]] (by rfl) rfl rfl (by(try simp only[zg,List.map_cons,List.map_nil]);first|done|rfl|(simp only[zn,zd];rfl)) ?_
       with_reducible refine(spec_OutOk.calls k a0_0 a0_1 an _ A4.out).mono ?_
       rintro e w11 ⟨rfl,hb⟩
       refine⟨_,rfl,?_⟩;have n0_:=bW aa hb;have n1_:=bW ac hb;have n2_:=hS hb;clear aa;clear ac;clear HB;have aa:=n0_;have ac:=n1_;have HB:=n2_;clear n0_ n1_ n2_
       refine hK.out _ _ ⟨bC aa 0,bC aa 1⟩ (fun hHeld=>?_);clear hK K
       refine norm_ (a':=?_) ?_ ?_;rotate_left
       · show Act.put _ (some 11) _=_
         simp only[Act.put,zE,zF,zG,i64_w,i32_w]
         rfl
       refine pX 3 12 (bAr 7 15) ?_
       refine pX 4 13 (bAr 7 31) ?_
       refine one_ (i:=5) (N:=some 7) (bAr 7 63) rfl rfl (by kernel_rfl) (by decide) (fun K hK=>?_)
       refine box_step ?hg (N:=7) ?hd (cs:=#[.string (⟨#[]⟩:ByteArray),.int .i64 0,.bool false]) (t:=59) ?hr ?_;(case hd=>rfl);(case hg=>rfl);(case hr=>first|(go_simp;done)|(go_simp;rfl));intro ag hg w12 hbox hb;have n0_:=bW aa hb;have n1_:=bW ac hb;have n2_:=hS hb;have n3_:=aM hbox;have n4_:=aM (sZ hg);have n5_:=aM (sZ hg);have n6_:=aM (nL aa hg);have n7_:=aM (nG aa hg);have n8_:=aM (nL ac hg);have n9_:=aM (nG ac hg);clear aa;clear ac;clear HB;have aa:=n0_;have ac:=n1_;have HB:=n2_;have ai:=n3_;have ao:=n4_;have am:=n5_;have ab:=n6_;have ah:=n7_;have ae:=n8_;have af:=n9_;clear n0_ n1_ n2_ n3_ n4_ n5_ n6_ n7_ n8_ n9_;clear hb hbox hg
       refine hK.out _ _ ⟨bC aa 0,bC aa 1⟩ (fun hHeld=>?_);clear hK K
       refine norm_ (a':=?_) ?_ ?_;rotate_left
       · show Act.put _ (some 7) _=_
         simp only[Act.put,zE,zF,zG,i64_w,i32_w]
         rfl
       exact norm_ (by simp only[putAll,Act.put,zE,zF,zG]) (hCont (ag) _ ⟨hHeld,(bI aa.out),(bI ac.out),(bI ai.out),ao.out,am.out,ab.out,ah.out,ae.out,af.out,hB⟩)
     · skip
       refine box_step ?hg (N:=7) ?hd (cs:=#[.string (⟨#[]⟩:ByteArray),.int .i64 0,.bool false]) (t:=59) ?hr ?_;(case hd=>rfl);(case hg=>rfl);(case hr=>first|(go_simp;done)|(go_simp;rfl));intro ag hg w11 hbox hb;have n0_:=bW aa hb;have n1_:=bW ac hb;have n2_:=hS hb;have n3_:=aM hbox;have n4_:=aM (sZ hg);have n5_:=aM (sZ hg);have n6_:=aM (nL aa hg);have n7_:=aM (nG aa hg);have n8_:=aM (nL ac hg);have n9_:=aM (nG ac hg);clear aa;clear ac;clear HB;have aa:=n0_;have ac:=n1_;have HB:=n2_;have ai:=n3_;have ao:=n4_;have am:=n5_;have ab:=n6_;have ah:=n7_;have ae:=n8_;have af:=n9_;clear n0_ n1_ n2_ n3_ n4_ n5_ n6_ n7_ n8_ n9_;clear hb hbox hg
       refine hK.out _ _ ⟨bC aa 0,bC aa 1⟩ (fun hHeld=>?_);clear hK K
       refine norm_ (a':=?_) ?_ ?_;rotate_left
       · show Act.put _ (some 7) _=_
         simp only[Act.put,zE,zF,zG,i64_w,i32_w]
         rfl
       refine one_ (i:=2) (N:=some 11) (bAr 7 39) rfl rfl (by kernel_rfl) (by decide) (fun K hK=>?_)
       refine goes_ Try.func67 (by kernel_rfl) rfl #[.agg #[.string a0_0,.int .i64 a0_1]] (by rfl) rfl rfl (by(try simp only[zg,List.map_cons,List.map_nil]);first|done|rfl|(simp only[zn,zd];rfl)) ?_
       with_reducible refine(spec_OutOk.calls k a0_0 a0_1 an _ A4.out).mono ?_
       rintro e w12 ⟨rfl,hb⟩
       refine⟨_,rfl,?_⟩;have n0_:=bW aa hb;have n1_:=bW ac hb;have n2_:=bW ai hb;have n3_:=hS hb;clear aa;clear ac;clear ai;clear HB;have aa:=n0_;have ac:=n1_;have ai:=n2_;have HB:=n3_;clear n0_ n1_ n2_ n3_
       refine hK.out _ _ ⟨bC aa 0,bC aa 1⟩ (fun hHeld=>?_);clear hK K
       refine norm_ (a':=?_) ?_ ?_;rotate_left
       · show Act.put _ (some 11) _=_
         simp only[Act.put,zE,zF,zG,i64_w,i32_w]
         rfl
       refine pX 3 12 (bAr 7 47) ?_
       refine pX 4 13 (bAr 7 63) ?_
       exact norm_ (by simp only[putAll,Act.put,zE,zF,zG]) (hCont (ag) _ ⟨hHeld,(bI aa.out),(bI ac.out),(bI ai.out),ao.out,am.out,ab.out,ah.out,ae.out,af.out,hB⟩)
   rintro ag w13 ⟨hS_,h0_,h1_,h2_,h3_,h4_,h5_,h6_,h7_,h8_,h9_⟩;have n0_:Aside0 (w13.heap[aj]? = some (.cells #[.string a0_0,.int .i64 a0_1] 27 (0,0))):=⟨h0_⟩;have n1_:Aside0 (w13.heap[ak]? = some (.cells #[.string (⟨#[]⟩:ByteArray),.int .i64 0,.bool false] 59 (0,0))):=⟨h1_⟩;have n2_:Aside0 (w13.heap[ag]? = some (.cells #[.string (⟨#[]⟩:ByteArray),.int .i64 0,.bool false] 59 (0,0))):=⟨h2_⟩;have n3_:Aside0 (w.heap.size≤ag):=⟨h3_⟩;have n4_:Aside0 (w.heap.size≤ag):=⟨h4_⟩;have n5_:Aside0 (aj≠ag):=⟨h5_⟩;have n6_:Aside0 (ag≠aj):=⟨h6_⟩;have n7_:Aside0 (ak≠ag):=⟨h7_⟩;have n8_:Aside0 (ag≠ak):=⟨h8_⟩;have n9_:Aside0 (Below w.heap.size w w13):=⟨h9_⟩;clear aa;clear ac;clear HB;clear h0_ h1_ h2_ h3_ h4_ h5_ h6_ h7_ h8_ h9_;have aa:=n0_;have ac:=n1_;have ai:=n2_;have ao:=n3_;have am:=n4_;have ab:=n5_;have ah:=n6_;have ae:=n7_;have af:=n8_;have HB:=n9_;clear n0_ n1_ n2_ n3_ n4_ n5_ n6_ n7_ n8_ n9_;have hHeld:w13.cell? ⟨aj,0,none⟩=some (.string a0_0)∧w13.cell? ⟨aj,1,none⟩=some (.int .i64 a0_1):=hS_
   refine norm_ (a':=?_) ?_ ?_;rotate_left
   · simp only[putAll,Act.put,zE,zF,zG]
     rfl
   refine one_ (i:=6) (N:=none) (bAr 7 127) rfl rfl (by kernel_rfl) (by decide) (fun K hK=>?_);have hs14:w13.cell? ⟨ag,0,none⟩=some (.string (⟨#[]⟩:ByteArray)):=bC ai 0;have bY:=zS ai.out 0;have aZ:=ab.out;have bb:=ae.out;have be:=ah.out;have bf:=af.out;have hs15:w13.cell? ⟨ag,1,none⟩=some (.int .i64 0):=bC ai 1;have bZ:=zS ai.out 1;have bg:=ab.out;have bh:=ae.out;have bi:=ah.out;have bj:=af.out;have hs16:w13.cell? ⟨ag,2,none⟩=some (.bool false):=bC ai 2;have b0:=zS ai.out 2;have bk:=ab.out;have bl:=ae.out;have bn:=ah.out;have bo:=af.out
   refine skip_ (w1:=?_) (by rfl) rfl ?_ ?_;rotate_left
   · go_simp
     rfl
   refine hK.out _ _ ⟨(cV ab ((cV ab ((cV ab (hHeld.1)))))),(cV ab ((cV ab ((cV ab (hHeld.2))))))⟩ (fun hHeld=>?_);clear hK K
   refine done_ (by kernel_rfl) ?_;have ap:=aM (show IsS59 w w13 ag (⟨#[]⟩:ByteArray) 0 false from⟨ai.out,am.out⟩);clear ai
   try go_wp2_with (first|(refine gL (some 16) Try.func68 #[.pointer (some ⟨ag,0,none⟩),.int .i64 1,.int .i64 1,.bool false] ?_;(with_reducible refine(spec_l09Put.calls k ag a0_0 a0_1 (!an) 1 1 false aD aG aH w _ ?s1 ?s2 A6.out).mono ?_);(case s1=>exact iA);(case s2=>exact iC);rintro e w17 ⟨rfl,hi,hb,hk⟩;refine⟨_,rfl,?_⟩;have n0_:=aM (KeepBut.blk hk (g':=aj) (o:=.cells #[.string a0_0,.int .i64 a0_1] 27 (0,0)) kB ab.out (by simp));have n1_:=aM (KeepBut.blk hk (g':=ak) (o:=.cells #[.string (⟨#[]⟩:ByteArray),.int .i64 0,.bool false] 59 (0,0)) kB ae.out (by simp));have n2_:=aM hb;have n3_:=aM hi;clear aa;clear ac;clear HB;clear ap;have aa:=n0_;have ac:=n1_;have HB:=n2_;have ap:=n3_;clear n0_ n1_ n2_ n3_;clear hb hk hi)|(refine gL (some 18) Try.func68 #[.pointer (some ⟨ag,0,none⟩),.int .i64 a1,.int .i64 2,.bool false] ?_;(with_reducible refine(spec_l09Put.calls k ag aD aG aH a1 2 false aI aJ aK w _ ?s1 ?s2 A7.out).mono ?_);(case s1=>exact iA);(case s2=>exact iC);rintro e w18 ⟨rfl,hi,hb,hk⟩;refine⟨_,rfl,?_⟩;replace aa:=aM (KeepBut.blk hk (g':=aj) (o:=.cells #[.string a0_0,.int .i64 a0_1] 27 (0,0)) (bI aa.out) ab.out (by simp));replace ac:=aM (KeepBut.blk hk (g':=ak) (o:=.cells #[.string (⟨#[]⟩:ByteArray),.int .i64 0,.bool false] 59 (0,0)) (bI ac.out) ae.out (by simp));replace HB:=aM hb;replace ap:=aM hi;clear hb hk hi;obtain⟨au,hgz19⟩:=ap.out;have bq:=cellS59_0 au;have br:=cellS59_1 au;have bu:=cellS59_2 au;have bv:=zS au 0;have bw:=zS au 1;have bx:=zS au 2;clear au hgz19;have b6:=ar.out;have b7:=aq.out;have b8:=ae.out;have b9:=af.out;have ck:=bz3 ac))
   refine bodyPost_ret (results_cell_row rfl _ _ ak 59 #[.string aI,.int .i64 aJ,.bool aK] (0,0) _ rfl kB Try.underlying59 rfl (by kernel_rfl)) rfl ?_;exact⟨eE,iC⟩
 · intro H;subst c5;revert H;refine bdR fun⟨aT,aU,aV⟩ A23=>?_;intro H
   try dsimp only at H
   revert H;refine bdR fun⟨aW,aX,aY⟩ A24=>?_;intro H
   try dsimp only at H
   simp only[zL,zM]at H;obtain⟨rfl,rfl,rfl⟩:=H;go_enter Try.func26,Try.ntmps26
   try go_wp2_with (first|(refine bE 3 #[.string a0_0,.int .i64 a0_1] 27 ?_;intro aj hg w25 hbox hb;have aa:=aM hbox;have aA:=aM (sZ hg);have aN:=aA;replace HB:=hS hb;clear hb hbox hg)|(refine bE 6 #[.string (⟨#[]⟩:ByteArray),.int .i64 0,.bool false] 59 ?_;intro ak hg w26 hbox hb;have ac:=aM hbox;have aC:=aM (sZ hg);have aQ:=aC;replace HB:=hS hb;have aq:=aM (nL aa hg);have ar:=aM (nG aa hg);replace aa:=bW aa hb;clear hb hbox hg))
   replace aa:=aM (z8 aa.out);replace ac:=aM (z8 ac.out);replace HB:=aM (zy HB.out)
   refine start_ (n:=7) (S:=fun w'=>w'.cell? ⟨aj,0,none⟩=some (.string a0_0)∧w'.cell? ⟨aj,1,none⟩=some (.int .i64 a0_1)) (ds:=[]) (bAr 7 0) (by kernel_rfl) rfl rfl ⟨bC aa 0,bC aa 1⟩ (fun hHeld=>?_)
   generalize w26.drew=w27 at aa ac HB hHeld ⊢
   refine tK 0 9 (bAr 7 1) ?_
   refine tK 1 10 (bAr 7 3) ?_
   refine join_ (σ:=Nat) 1 #[true,true,true,true,true,true,false] (fun s_=>[(11,.bool an),(7,.pointer (some ⟨s_,0,none⟩)),(12,.bool (!an)),(13,.agg #[.string a0_0,.int .i64 a0_1,.bool (!an)])]) (fun s_ w'=>(w'.cell? ⟨aj,0,none⟩=some (.string a0_0)∧w'.cell? ⟨aj,1,none⟩=some (.int .i64 a0_1))∧(w'.heap[aj]? = some (.cells #[.string a0_0,.int .i64 a0_1] 27 (0,0)))∧(w'.heap[ak]? = some (.cells #[.string (⟨#[]⟩:ByteArray),.int .i64 0,.bool false] 59 (0,0)))∧(w'.heap[s_]? = some (.cells #[.string (⟨#[]⟩:ByteArray),.int .i64 0,.bool false] 59 (0,0)))∧(w.heap.size≤s_)∧(w.heap.size≤s_)∧(aj≠s_)∧(s_≠aj)∧(ak≠s_)∧(s_≠ak)∧(Below w.heap.size w w')) ?_ ?_;rotate_left
   · intro hCont
     refine two_ (i:=2) (j:=5) (Ni:=some 11) (Nj:=some 7) (bAr 7 7) (bAr 7 35) rfl rfl rfl rfl (by kernel_rfl) (by decide) (by decide) (fun K hK=>?_) (fun K hK=>?_)
     · skip
       refine goes_ Try.func67 (by kernel_rfl) rfl #[.agg #[.string a0_0,.int .i64 a0_1]] (by rfl) rfl rfl (by(try simp only[zg,List.map_cons,List.map_nil]);first|done|rfl|(simp only[zn,zd];rfl)) ?_
       with_reducible refine(spec_OutOk.calls k a0_0 a0_1 an _ A4.out).mono ?_
       rintro e w28 ⟨rfl,hb⟩
       refine⟨_,rfl,?_⟩;have n0_:=bW aa hb;have n1_:=bW ac hb;have n2_:=hS hb;clear aa;clear ac;clear HB;have aa:=n0_;have ac:=n1_;have HB:=n2_;clear n0_ n1_ n2_
       refine hK.out _ _ ⟨bC aa 0,bC aa 1⟩ (fun hHeld=>?_);clear hK K
       refine norm_ (a':=?_) ?_ ?_;rotate_left
       · show Act.put _ (some 11) _=_
         simp only[Act.put,zE,zF,zG,i64_w,i32_w]
         rfl
       refine pX 3 12 (bAr 7 15) ?_
       refine pX 4 13 (bAr 7 31) ?_
       refine one_ (i:=5) (N:=some 7) (bAr 7 63) rfl rfl (by kernel_rfl) (by decide) (fun K hK=>?_)
       refine box_step ?hg (N:=7) ?hd (cs:=#[.string (⟨#[]⟩:ByteArray),.int .i64 0,.bool false]) (t:=59) ?hr ?_;(case hd=>rfl);(case hg=>rfl);(case hr=>first|(go_simp;done)|(go_simp;rfl));intro ag hg w29 hbox hb;have n0_:=bW aa hb;have n1_:=bW ac hb;have n2_:=hS hb;have n3_:=aM hbox;have n4_:=aM (sZ hg);have n5_:=aM (sZ hg);have n6_:=aM (nL aa hg);have n7_:=aM (nG aa hg);have n8_:=aM (nL ac hg);have n9_:=aM (nG ac hg);clear aa;clear ac;clear HB;have aa:=n0_;have ac:=n1_;have HB:=n2_;have ai:=n3_;have ao:=n4_;have am:=n5_;have ab:=n6_;have ah:=n7_;have ae:=n8_;have af:=n9_;clear n0_ n1_ n2_ n3_ n4_ n5_ n6_ n7_ n8_ n9_;clear hb hbox hg
       refine hK.out _ _ ⟨bC aa 0,bC aa 1⟩ (fun hHeld=>?_);clear hK K
       refine norm_ (a':=?_) ?_ ?_;rotate_left
       · show Act.put _ (some 7) _=_
         simp only[Act.put,zE,zF,zG,i64_w,i32_w]
         rfl
       exact norm_ (by simp only[putAll,Act.put,zE,zF,zG]) (hCont (ag) _ ⟨hHeld,(bI aa.out),(bI ac.out),(bI ai.out),ao.out,am.out,ab.out,ah.out,ae.out,af.out,hB⟩)
     · skip
       refine box_step ?hg (N:=7) ?hd (cs:=#[.string (⟨#[]⟩:ByteArray),.int .i64 0,.bool false]) (t:=59) ?hr ?_;(case hd=>rfl);(case hg=>rfl);(case hr=>first|(go_simp;done)|(go_simp;rfl));intro ag hg w28 hbox hb;have n0_:=bW aa hb;have n1_:=bW ac hb;have n2_:=hS hb;have n3_:=aM hbox;have n4_:=aM (sZ hg);have n5_:=aM (sZ hg);have n6_:=aM (nL aa hg);have n7_:=aM (nG aa hg);have n8_:=aM (nL ac hg);have n9_:=aM (nG ac hg);clear aa;clear ac;clear HB;have aa:=n0_;have ac:=n1_;have HB:=n2_;have ai:=n3_;have ao:=n4_;have am:=n5_;have ab:=n6_;have ah:=n7_;have ae:=n8_;have af:=n9_;clear n0_ n1_ n2_ n3_ n4_ n5_ n6_ n7_ n8_ n9_;clear hb hbox hg
       refine hK.out _ _ ⟨bC aa 0,bC aa 1⟩ (fun hHeld=>?_);clear hK K
       refine norm_ (a':=?_) ?_ ?_;rotate_left
       · show Act.put _ (some 7) _=_
         simp only[Act.put,zE,zF,zG,i64_w,i32_w]
         rfl
       refine one_ (i:=2) (N:=some 11) (bAr 7 39) rfl rfl (by kernel_rfl) (by decide) (fun K hK=>?_)
       refine goes_ Try.func67 (by kernel_rfl) rfl #[.agg #[.string a0_0,.int .i64 a0_1]] (by rfl) rfl rfl (by(try simp only[zg,List.map_cons,List.map_nil]);first|done|rfl|(simp only[zn,zd];rfl)) ?_
       with_reducible refine(spec_OutOk.calls k a0_0 a0_1 an _ A4.out).mono ?_
       rintro e w29 ⟨rfl,hb⟩
       refine⟨_,rfl,?_⟩;have n0_:=bW aa hb;have n1_:=bW ac hb;have n2_:=bW ai hb;have n3_:=hS hb;clear aa;clear ac;clear ai;clear HB;have aa:=n0_;have ac:=n1_;have ai:=n2_;have HB:=n3_;clear n0_ n1_ n2_ n3_
       refine hK.out _ _ ⟨bC aa 0,bC aa 1⟩ (fun hHeld=>?_);clear hK K
       refine norm_ (a':=?_) ?_ ?_;rotate_left
       · show Act.put _ (some 11) _=_
         simp only[Act.put,zE,zF,zG,i64_w,i32_w]
         rfl
       refine pX 3 12 (bAr 7 47) ?_
       refine pX 4 13 (bAr 7 63) ?_
       exact norm_ (by simp only[putAll,Act.put,zE,zF,zG]) (hCont (ag) _ ⟨hHeld,(bI aa.out),(bI ac.out),(bI ai.out),ao.out,am.out,ab.out,ah.out,ae.out,af.out,hB⟩)
   rintro ag w30 ⟨hS_,h0_,h1_,h2_,h3_,h4_,h5_,h6_,h7_,h8_,h9_⟩;have n0_:Aside0 (w30.heap[aj]? = some (.cells #[.string a0_0,.int .i64 a0_1] 27 (0,0))):=⟨h0_⟩;have n1_:Aside0 (w30.heap[ak]? = some (.cells #[.string (⟨#[]⟩:ByteArray),.int .i64 0,.bool false] 59 (0,0))):=⟨h1_⟩;have n2_:Aside0 (w30.heap[ag]? = some (.cells #[.string (⟨#[]⟩:ByteArray),.int .i64 0,.bool false] 59 (0,0))):=⟨h2_⟩;have n3_:Aside0 (w.heap.size≤ag):=⟨h3_⟩;have n4_:Aside0 (w.heap.size≤ag):=⟨h4_⟩;have n5_:Aside0 (aj≠ag):=⟨h5_⟩;have n6_:Aside0 (ag≠aj):=⟨h6_⟩;have n7_:Aside0 (ak≠ag):=⟨h7_⟩;have n8_:Aside0 (ag≠ak):=⟨h8_⟩;have n9_:Aside0 (Below w.heap.size w w30):=⟨h9_⟩;clear aa;clear ac;clear HB;clear h0_ h1_ h2_ h3_ h4_ h5_ h6_ h7_ h8_ h9_;have aa:=n0_;have ac:=n1_;have ai:=n2_;have ao:=n3_;have am:=n4_;have ab:=n5_;have ah:=n6_;have ae:=n7_;have af:=n8_;have HB:=n9_;clear n0_ n1_ n2_ n3_ n4_ n5_ n6_ n7_ n8_ n9_;have hHeld:w30.cell? ⟨aj,0,none⟩=some (.string a0_0)∧w30.cell? ⟨aj,1,none⟩=some (.int .i64 a0_1):=hS_
   refine norm_ (a':=?_) ?_ ?_;rotate_left
   · simp only[putAll,Act.put,zE,zF,zG]
     rfl
   refine one_ (i:=6) (N:=none) (bAr 7 127) rfl rfl (by kernel_rfl) (by decide) (fun K hK=>?_);have hs31:w30.cell? ⟨ag,0,none⟩=some (.string (⟨#[]⟩:ByteArray)):=bC ai 0;have ca:=zS ai.out 0;have bz:=ab.out;have bA:=ae.out;have bF:=ah.out;have bG:=af.out;have hs32:w30.cell? ⟨ag,1,none⟩=some (.int .i64 0):=bC ai 1;have cd:=zS ai.out 1;have bH:=ab.out;have bJ:=ae.out;have bK:=ah.out;have bM:=af.out;have hs33:w30.cell? ⟨ag,2,none⟩=some (.bool false):=bC ai 2;have ce:=zS ai.out 2;have bN:=ab.out;have bO:=ae.out;have bP:=ah.out;have bQ:=af.out
   refine skip_ (w1:=?_) (by rfl) rfl ?_ ?_;rotate_left
   · go_simp
     rfl
   refine hK.out _ _ ⟨(cV ab ((cV ab ((cV ab (hHeld.1)))))),(cV ab ((cV ab ((cV ab (hHeld.2))))))⟩ (fun hHeld=>?_);clear hK K
   refine done_ (by kernel_rfl) ?_;have ap:=aM (show IsS59 w w30 ag (⟨#[]⟩:ByteArray) 0 false from⟨ai.out,am.out⟩);clear ai
   try go_wp2_with (first|(refine gL (some 16) Try.func68 #[.pointer (some ⟨ag,0,none⟩),.int .i64 0,.int .i64 1,.bool false] ?_;(with_reducible refine(spec_l09Put.calls k ag a0_0 a0_1 (!an) 0 1 false aT aU aV w _ ?s1 ?s2 A23.out).mono ?_);(case s1=>exact iA);(case s2=>exact iC);rintro e w34 ⟨rfl,hi,hb,hk⟩;refine⟨_,rfl,?_⟩;have n0_:=aM (KeepBut.blk hk (g':=aj) (o:=.cells #[.string a0_0,.int .i64 a0_1] 27 (0,0)) kB ab.out (by simp));have n1_:=aM (KeepBut.blk hk (g':=ak) (o:=.cells #[.string (⟨#[]⟩:ByteArray),.int .i64 0,.bool false] 59 (0,0)) kB ae.out (by simp));have n2_:=aM hb;have n3_:=aM hi;clear aa;clear ac;clear HB;clear ap;have aa:=n0_;have ac:=n1_;have HB:=n2_;have ap:=n3_;clear n0_ n1_ n2_ n3_;clear hb hk hi)|(refine gL (some 18) Try.func68 #[.pointer (some ⟨ag,0,none⟩),.int .i64 a1,.int .i64 2,.bool false] ?_;(with_reducible refine(spec_l09Put.calls k ag aT aU aV a1 2 false aW aX aY w _ ?s1 ?s2 A24.out).mono ?_);(case s1=>exact iA);(case s2=>exact iC);rintro e w35 ⟨rfl,hi,hb,hk⟩;refine⟨_,rfl,?_⟩;replace aa:=aM (KeepBut.blk hk (g':=aj) (o:=.cells #[.string a0_0,.int .i64 a0_1] 27 (0,0)) (bI aa.out) ab.out (by simp));replace ac:=aM (KeepBut.blk hk (g':=ak) (o:=.cells #[.string (⟨#[]⟩:ByteArray),.int .i64 0,.bool false] 59 (0,0)) (bI ac.out) ae.out (by simp));replace HB:=aM hb;replace ap:=aM hi;clear hb hk hi;obtain⟨av,hgz36⟩:=ap.out;have bR:=cellS59_0 av;have bS:=cellS59_1 av;have bT:=cellS59_2 av;have bU:=zS av 0;have bV:=zS av 1;have bX:=zS av 2;clear av hgz36;have cg:=ar.out;have ch:=aq.out;have ci:=ae.out;have cj:=af.out;have cl:=bz3 ac))
   refine bodyPost_ret (results_cell_row rfl _ _ ak 59 #[.string aW,.int .i64 aX,.bool aY] (0,0) _ rfl kB Try.underlying59 rfl (by kernel_rfl)) rfl ?_;exact⟨eE,iC⟩
end Go.Proofs.Ytldiiicbgdfapaa.PFnExactWovenBlock
