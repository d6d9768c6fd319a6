/- Walks of functions that the law reaches: each call comes to what the Lean function of its name tells. -/
import Derived.Test.YtldiiicbgdfapaaVFnExactWovenBlock
import Derived.Test.YtldiiicbgdfapaaProg
namespace Go.Proofs.Ytldiiicbgdfapaa.PFnExactWovenBlock
open Go.RowKit Go.Proofs.YtldiiicbgdfapaaW.PrintWords Go.Proofs.YtldiiicbgdfapaaW.PrintLast Go.Proofs.YtldiiicbgdfapaaW.PrintMore
attribute [local go_sem] max2_int min2_int max_two min_two max_three min_three max_four min_four
set_option linter.unusedVariables false
set_option linter.unusedSimpArgs false
def errW:Option Int→Value
  | none=> .nilIface
  | some c=> .iface 0 (.int .i64 c)
theorem errW_none:errW none = .nilIface:=rfl
theorem errW_some (c:Int):errW (some c) = .iface 0 (.int .i64 c):=rfl
theorem info3:(Try.prog.info? 3).map (fun i=>(i.zero,i.size,i.bytes))=some (some (.int .i64 0),1,8):=by kernel_rfl
theorem info5:(Try.prog.info? 5).map (fun i=>(i.zero,i.size,i.bytes))=some (some (.int .u8 0),1,1):=by kernel_rfl
theorem info52:(Try.prog.info? 52).map (fun i=>(i.zero,i.size,i.bytes))=some (some (.agg #[(.int .i64 0),(.int .i64 0)]),2,16):=by kernel_rfl
theorem info62:(Try.prog.info? 62).map (fun i=>(i.zero,i.size,i.bytes))=some (some (.agg #[(.int .i64 0),(.int .i64 0),(.bool false)]),3,24):=by kernel_rfl
theorem info70:(Try.prog.info? 70).map (fun i=>(i.zero,i.size,i.bytes))=some (some (.agg #[(.int .i64 0),(.int .i64 0),(.int .i64 0)]),3,24):=by kernel_rfl
theorem info106:(Try.prog.info? 106).map (fun i=>(i.zero,i.size,i.bytes))=some (some (.agg #[(.int .i64 0),(.slice none 0 0)]),2,32):=by kernel_rfl
theorem info141:(Try.prog.info? 141).map (fun i=>(i.zero,i.size,i.bytes))=some (some (.agg #[(.int .i64 0),(.slice none 0 0)]),2,32):=by kernel_rfl
structure S72 where
  f0:Int
  f1:Int
  f2:Int
def z72:S72:=⟨(0:Int),(0:Int),(0:Int)⟩
def k72:Kd S72:=Kd.iso (Kd.pair (Kd.int .i64) (Kd.pair (Kd.int .i64) (Kd.int .i64))) (fun x:S72=>(x.f0,x.f1,x.f2))
theorem k72_open {w:World} {x:S72} {cs:List Value} (h:k72.K w x cs):cs=[.int .i64 x.f0,.int .i64 x.f1,.int .i64 x.f2]:=by
  obtain⟨_,_,rfl,rfl,⟨_,_,rfl,rfl,rfl⟩⟩:=h
  exact rfl
def rd_T72 (xs:List S72) (i:Int):S72:=xs.getD i.toNat z72
theorem at_T72 {w:World} {A:Option Addr} {n:Nat} {xs:List S72} (h:Kd.C k72 w A n xs) (i:Int) (h0:0≤i) (h1:i<n):∃ ad ,A=some ad∧w.cell? (ad.add (i.toNat*3))=some (.int .i64 (rd_T72 xs i).f0)∧w.cell? ⟨(ad.add (i.toNat*3)).block,(ad.add (i.toNat*3)).off+1,none⟩=some (.int .i64 (rd_T72 xs i).f1)∧w.cell? ⟨(ad.add (i.toNat*3)).block,(ad.add (i.toNat*3)).off+2,none⟩=some (.int .i64 (rd_T72 xs i).f2):=by
  obtain⟨ad,c,e,_,hK,hc0⟩:=Kd.C_get h z72 i h0 h1
  have hc:∀ j u,c[j]? = some u→w.cell? (ad.add (i.toNat*3+j))=some u:=hc0
  obtain rfl:=k72_open hK
  exact⟨ad,e,hc 0 _ rfl,by rw[← add_field _ _ 1 (by omega)];exact hc 1 _ rfl,by rw[← add_field _ _ 2 (by omega)];exact hc 2 _ rfl⟩
structure S106 where
  f0:Int
  f1:(List Int)
def z106:S106:=⟨(0:Int),([]:List Int)⟩
def k106:Kd S106:=Kd.iso (Kd.pair (Kd.int .i64) (Kd.slice 3 (Kd.int .i64))) (fun x:S106=>(x.f0,x.f1))
theorem k106_open {w:World} {x:S106} {cs:List Value} (h:k106.K w x cs):∃ A1 c1,cs=[.int .i64 x.f0,.slice A1 x.f1.length c1]∧x.f1.length≤c1∧(Kd.int .i64).C w A1 x.f1.length x.f1:=by
  obtain⟨_,_,rfl,rfl,⟨A1,c1,rfl,l1,g1⟩⟩:=h
  exact⟨A1,c1,rfl,l1,g1⟩
theorem k106_mk (w:World) (x:S106) {A1:Option Addr} {c1:Nat} (l1:x.f1.length≤c1) (g1:(Kd.int .i64).C w A1 x.f1.length x.f1):k106.K w x [.int .i64 x.f0,.slice A1 x.f1.length c1]:=⟨[.int .i64 x.f0],[.slice A1 x.f1.length c1],rfl,rfl,⟨A1,c1,rfl,l1,g1⟩⟩
theorem k106_openF {W:World} {ok:Nat→Prop} {x:S106} {cs:List Value} (h:Kd.FK k106 W ok x cs):∃ A1 c1,cs=[.int .i64 x.f0,.slice A1 x.f1.length c1]∧x.f1.length≤c1∧Kd.F (Kd.int .i64) W ok A1 x.f1.length x.f1:=by
  obtain⟨A1,c1,rfl,l1,_⟩:=k106_open (Kd.FK_now h)
  exact⟨A1,c1,rfl,l1,(fun W' hW=>by obtain⟨A1_,c1_,he,l1_,g1_⟩:=k106_open (h W' hW);injection (zC (show some (Value.slice A1 x.f1.length c1)=some (Value.slice A1_ x.f1.length c1_)from congrArg (fun l=>l[1]?) he))with ha_ _ _;rw[ha_];exact g1_)⟩
theorem k106_mkF (W:World) (ok:Nat→Prop) (x:S106) {A1:Option Addr} {c1:Nat} (l1:x.f1.length≤c1) (g1:Kd.F (Kd.int .i64) W ok A1 x.f1.length x.f1):Kd.FK k106 W ok x [.int .i64 x.f0,.slice A1 x.f1.length c1]:=fun W2 hW=>k106_mk W2 x l1 (g1 W2 hW)
def rd_T106 (xs:List S106) (i:Int):S106:=xs.getD i.toNat z106
theorem at_T106 {w:World} {A:Option Addr} {n:Nat} {xs:List S106} (h:Kd.C k106 w A n xs) (i:Int) (h0:0≤i) (h1:i<n):∃ ad A1 c1,A=some ad∧w.cell? (ad.add (i.toNat*2))=some (.int .i64 (rd_T106 xs i).f0)∧w.cell? ⟨(ad.add (i.toNat*2)).block,(ad.add (i.toNat*2)).off+1,none⟩=some (.slice A1 (rd_T106 xs i).f1.length c1)∧(rd_T106 xs i).f1.length≤c1∧(Kd.int .i64).C w A1 (rd_T106 xs i).f1.length (rd_T106 xs i).f1:=by
  obtain⟨ad,c,e,_,hK,hc0⟩:=Kd.C_get h z106 i h0 h1
  have hc:∀ j u,c[j]? = some u→w.cell? (ad.add (i.toNat*2+j))=some u:=hc0
  obtain⟨A1,c1,rfl,l1,g1⟩:=k106_open hK
  exact⟨ad,A1,c1,e,hc 0 _ rfl,by rw[← add_field _ _ 1 (by omega)];exact hc 1 _ rfl,l1,g1⟩
structure S70 where
  f0:Int
  f1:Int
  f2:Int
def z70:S70:=⟨(0:Int),(0:Int),(0:Int)⟩
def k70:Kd S70:=Kd.iso (Kd.pair (Kd.int .i64) (Kd.pair (Kd.int .i64) (Kd.int .i64))) (fun x:S70=>(x.f0,x.f1,x.f2))
theorem k70_heap:Kd.Heap k70:=Kd.heap_iso _ (Kd.heap_pair (Kd.heap_int .i64) (Kd.heap_pair (Kd.heap_int .i64) (Kd.heap_int .i64)))
theorem k70_open {w:World} {x:S70} {cs:List Value} (h:k70.K w x cs):cs=[.int .i64 x.f0,.int .i64 x.f1,.int .i64 x.f2]:=by
  obtain⟨_,_,rfl,rfl,⟨_,_,rfl,rfl,rfl⟩⟩:=h
  exact rfl
theorem k70_openM {w:World} {base:Nat} {ok:Nat→Prop} {x:S70} {cs:List Value} (h:k70.M w base ok x cs):cs=[.int .i64 x.f0,.int .i64 x.f1,.int .i64 x.f2]:=by
  obtain⟨_,_,rfl,rfl,⟨_,_,rfl,rfl,rfl⟩⟩:=h
  exact rfl
theorem k70_mkM (w:World) (base:Nat) (ok:Nat→Prop) (x:S70):k70.M w base ok x [.int .i64 x.f0,.int .i64 x.f1,.int .i64 x.f2]:=⟨[.int .i64 x.f0],[.int .i64 x.f1,.int .i64 x.f2],rfl,rfl,⟨[.int .i64 x.f1],[.int .i64 x.f2],rfl,rfl,rfl⟩⟩
def rd_T70 (xs:List S70) (i:Int):S70:=xs.getD i.toNat z70
theorem at_T70 {w:World} {A:Option Addr} {n:Nat} {xs:List S70} (h:Kd.C k70 w A n xs) (i:Int) (h0:0≤i) (h1:i<n):∃ ad ,A=some ad∧w.cell? (ad.add (i.toNat*3))=some (.int .i64 (rd_T70 xs i).f0)∧w.cell? ⟨(ad.add (i.toNat*3)).block,(ad.add (i.toNat*3)).off+1,none⟩=some (.int .i64 (rd_T70 xs i).f1)∧w.cell? ⟨(ad.add (i.toNat*3)).block,(ad.add (i.toNat*3)).off+2,none⟩=some (.int .i64 (rd_T70 xs i).f2):=by
  obtain⟨ad,c,e,_,hK,hc0⟩:=Kd.C_get h z70 i h0 h1
  have hc:∀ j u,c[j]? = some u→w.cell? (ad.add (i.toNat*3+j))=some u:=hc0
  obtain rfl:=k70_open hK
  exact⟨ad,e,hc 0 _ rfl,by rw[← add_field _ _ 1 (by omega)];exact hc 1 _ rfl,by rw[← add_field _ _ 2 (by omega)];exact hc 2 _ rfl⟩
structure S52 where
  f0:Int
  f1:Int
def z52:S52:=⟨(0:Int),(0:Int)⟩
def k52:Kd S52:=Kd.iso (Kd.pair (Kd.int .i64) (Kd.int .i64)) (fun x:S52=>(x.f0,x.f1))
theorem k52_open {w:World} {x:S52} {cs:List Value} (h:k52.K w x cs):cs=[.int .i64 x.f0,.int .i64 x.f1]:=by
  obtain⟨_,_,rfl,rfl,rfl⟩:=h
  exact rfl
theorem k52_mkM (w:World) (base:Nat) (ok:Nat→Prop) (x:S52):k52.M w base ok x [.int .i64 x.f0,.int .i64 x.f1]:=⟨[.int .i64 x.f0],[.int .i64 x.f1],rfl,rfl,rfl⟩
def rd_T52 (xs:List S52) (i:Int):S52:=xs.getD i.toNat z52
theorem at_T52 {w:World} {A:Option Addr} {n:Nat} {xs:List S52} (h:Kd.C k52 w A n xs) (i:Int) (h0:0≤i) (h1:i<n):∃ ad ,A=some ad∧w.cell? (ad.add (i.toNat*2))=some (.int .i64 (rd_T52 xs i).f0)∧w.cell? ⟨(ad.add (i.toNat*2)).block,(ad.add (i.toNat*2)).off+1,none⟩=some (.int .i64 (rd_T52 xs i).f1):=by
  obtain⟨ad,c,e,_,hK,hc0⟩:=Kd.C_get h z52 i h0 h1
  have hc:∀ j u,c[j]? = some u→w.cell? (ad.add (i.toNat*2+j))=some u:=hc0
  obtain rfl:=k52_open hK
  exact⟨ad,e,hc 0 _ rfl,by rw[← add_field _ _ 1 (by omega)];exact hc 1 _ rfl⟩
structure S62 where
  f0:Int
  f1:Int
  f2:Bool
def z62:S62:=⟨(0:Int),(0:Int),false⟩
def k62:Kd S62:=Kd.iso (Kd.pair (Kd.int .i64) (Kd.pair (Kd.int .i64) Kd.bool)) (fun x:S62=>(x.f0,x.f1,x.f2))
theorem k62_open {w:World} {x:S62} {cs:List Value} (h:k62.K w x cs):cs=[.int .i64 x.f0,.int .i64 x.f1,.bool x.f2]:=by
  obtain⟨_,_,rfl,rfl,⟨_,_,rfl,rfl,rfl⟩⟩:=h
  exact rfl
theorem k62_mkM (w:World) (base:Nat) (ok:Nat→Prop) (x:S62):k62.M w base ok x [.int .i64 x.f0,.int .i64 x.f1,.bool x.f2]:=⟨[.int .i64 x.f0],[.int .i64 x.f1,.bool x.f2],rfl,rfl,⟨[.int .i64 x.f1],[.bool x.f2],rfl,rfl,rfl⟩⟩
def rd_T62 (xs:List S62) (i:Int):S62:=xs.getD i.toNat z62
theorem at_T62 {w:World} {A:Option Addr} {n:Nat} {xs:List S62} (h:Kd.C k62 w A n xs) (i:Int) (h0:0≤i) (h1:i<n):∃ ad ,A=some ad∧w.cell? (ad.add (i.toNat*3))=some (.int .i64 (rd_T62 xs i).f0)∧w.cell? ⟨(ad.add (i.toNat*3)).block,(ad.add (i.toNat*3)).off+1,none⟩=some (.int .i64 (rd_T62 xs i).f1)∧w.cell? ⟨(ad.add (i.toNat*3)).block,(ad.add (i.toNat*3)).off+2,none⟩=some (.bool (rd_T62 xs i).f2):=by
  obtain⟨ad,c,e,_,hK,hc0⟩:=Kd.C_get h z62 i h0 h1
  have hc:∀ j u,c[j]? = some u→w.cell? (ad.add (i.toNat*3+j))=some u:=hc0
  obtain rfl:=k62_open hK
  exact⟨ad,e,hc 0 _ rfl,by rw[← add_field _ _ 1 (by omega)];exact hc 1 _ rfl,by rw[← add_field _ _ 2 (by omega)];exact hc 2 _ rfl⟩
structure S141 where
  f0:Int
  f1:(List Int)
def z141:S141:=⟨(0:Int),([]:List Int)⟩
def k141:Kd S141:=Kd.iso (Kd.pair (Kd.int .i64) (Kd.slice 3 (Kd.int .i64))) (fun x:S141=>(x.f0,x.f1))
theorem k141_open {w:World} {x:S141} {cs:List Value} (h:k141.K w x cs):∃ A1 c1,cs=[.int .i64 x.f0,.slice A1 x.f1.length c1]∧x.f1.length≤c1∧(Kd.int .i64).C w A1 x.f1.length x.f1:=by
  obtain⟨_,_,rfl,rfl,⟨A1,c1,rfl,l1,g1⟩⟩:=h
  exact⟨A1,c1,rfl,l1,g1⟩
theorem k141_mk (w:World) (x:S141) {A1:Option Addr} {c1:Nat} (l1:x.f1.length≤c1) (g1:(Kd.int .i64).C w A1 x.f1.length x.f1):k141.K w x [.int .i64 x.f0,.slice A1 x.f1.length c1]:=⟨[.int .i64 x.f0],[.slice A1 x.f1.length c1],rfl,rfl,⟨A1,c1,rfl,l1,g1⟩⟩
theorem k141_openF {W:World} {ok:Nat→Prop} {x:S141} {cs:List Value} (h:Kd.FK k141 W ok x cs):∃ A1 c1,cs=[.int .i64 x.f0,.slice A1 x.f1.length c1]∧x.f1.length≤c1∧Kd.F (Kd.int .i64) W ok A1 x.f1.length x.f1:=by
  obtain⟨A1,c1,rfl,l1,_⟩:=k141_open (Kd.FK_now h)
  exact⟨A1,c1,rfl,l1,(fun W' hW=>by obtain⟨A1_,c1_,he,l1_,g1_⟩:=k141_open (h W' hW);injection (zC (show some (Value.slice A1 x.f1.length c1)=some (Value.slice A1_ x.f1.length c1_)from congrArg (fun l=>l[1]?) he))with ha_ _ _;rw[ha_];exact g1_)⟩
theorem k141_mkF (W:World) (ok:Nat→Prop) (x:S141) {A1:Option Addr} {c1:Nat} (l1:x.f1.length≤c1) (g1:Kd.F (Kd.int .i64) W ok A1 x.f1.length x.f1):Kd.FK k141 W ok x [.int .i64 x.f0,.slice A1 x.f1.length c1]:=fun W2 hW=>k141_mk W2 x l1 (g1 W2 hW)
def rd_T141 (xs:List S141) (i:Int):S141:=xs.getD i.toNat z141
theorem at_T141 {w:World} {A:Option Addr} {n:Nat} {xs:List S141} (h:Kd.C k141 w A n xs) (i:Int) (h0:0≤i) (h1:i<n):∃ ad A1 c1,A=some ad∧w.cell? (ad.add (i.toNat*2))=some (.int .i64 (rd_T141 xs i).f0)∧w.cell? ⟨(ad.add (i.toNat*2)).block,(ad.add (i.toNat*2)).off+1,none⟩=some (.slice A1 (rd_T141 xs i).f1.length c1)∧(rd_T141 xs i).f1.length≤c1∧(Kd.int .i64).C w A1 (rd_T141 xs i).f1.length (rd_T141 xs i).f1:=by
  obtain⟨ad,c,e,_,hK,hc0⟩:=Kd.C_get h z141 i h0 h1
  have hc:∀ j u,c[j]? = some u→w.cell? (ad.add (i.toNat*2+j))=some u:=hc0
  obtain⟨A1,c1,rfl,l1,g1⟩:=k141_open hK
  exact⟨ad,A1,c1,e,hc 0 _ rfl,by rw[← add_field _ _ 1 (by omega)];exact hc 1 _ rfl,l1,g1⟩
end Go.Proofs.Ytldiiicbgdfapaa.PFnExactWovenBlock
