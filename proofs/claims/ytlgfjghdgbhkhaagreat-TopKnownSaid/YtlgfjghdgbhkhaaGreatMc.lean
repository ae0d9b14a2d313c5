/-
  Texts of these claims, joined: Opn Opb Opm Cls Fct Wa Wb Wc Wd We Wf Wg Wp Wt Wu Wy Xd Xf Xi Xj Xn Srt Yd Yq Za Zb Ze Zf Zg Zh.
-/
import Derived.Test.YtlgfjghdgbhkhaaGreatMb
import Derived.Test.YtlgfjghdgbhkhaaGreatProg
import Derived.KernelRfl
import Derived.JoinedOf
import Derived.Shelf.Sort.Plain
import Derived.Shelf.Slices.CompactI
import Derived.Shelf.Slices.In.SortNone
import Derived.Lib.RowBridge
namespace Go.Proofs.YtlgfjghdgbhkhaaGreat
open Tryz
abbrev TN:=Go.MW.Cl Tryz.prog
theorem jG:type_of% @call10:=@call10
theorem SE:type_of% @call155:=@call155
theorem jb:type_of% @call170:=@call170
theorem SD:type_of% @call34:=@call34
theorem qK:type_of% @call79:=@call79
theorem iV:type_of% @call85:=@call85
theorem ve:type_of% @isAgg109:=@isAgg109
theorem fJ:type_of% @isAgg110:=@isAgg110
theorem dp:type_of% @isAgg112:=@isAgg112
theorem gK:type_of% @isAgg127:=@isAgg127
theorem lj:type_of% @isAgg142:=@isAgg142
theorem J4:type_of% @isAgg180:=@isAgg180
theorem J3:type_of% @isAgg207:=@isAgg207
theorem J2:type_of% @isAgg218:=@isAgg218
theorem an:type_of% @isAgg22:=@isAgg22
theorem jV:type_of% @isAgg296:=@isAgg296
theorem ai:type_of% @isAgg3:=@isAgg3
theorem mD:type_of% @isAgg321:=@isAgg321
theorem bg:type_of% @isAgg33:=@isAgg33
theorem dT:type_of% @isAgg34:=@isAgg34
theorem nZ:type_of% @isAgg35:=@isAgg35
theorem bS:type_of% @isAgg37:=@isAgg37
theorem ml:type_of% @isAgg4:=@isAgg4
theorem IZ:type_of% @isAgg40:=@isAgg40
theorem vY:type_of% @isAgg55:=@isAgg55
theorem ja:type_of% @isAgg74:=@isAgg74
theorem fY:type_of% @isAgg76:=@isAgg76
theorem rP:type_of% @isAgg78:=@isAgg78
theorem bR:type_of% @isAgg80:=@isAgg80
theorem yH:type_of% @results103:=@results103
theorem IY:type_of% @results104:=@results104
theorem yG:type_of% @results229:=@results229
theorem OE:type_of% @results41:=@results41
theorem vX:type_of% @results53:=@results53
theorem OD:type_of% @results55:=@results55
theorem DI:type_of% @results83:=@results83
theorem yF:type_of% @runUnderlying109:=@runUnderlying109
theorem a7:type_of% @runUnderlying110:=@runUnderlying110
theorem j8:type_of% @runUnderlying117:=@runUnderlying117
theorem yE:type_of% @runUnderlying118:=@runUnderlying118
theorem br:type_of% @runUnderlying124:=@runUnderlying124
theorem j7:type_of% @runUnderlying127:=@runUnderlying127
theorem SC:type_of% @runUnderlying138:=@runUnderlying138
theorem nY:type_of% @runUnderlying147:=@runUnderlying147
theorem SB:type_of% @runUnderlying153:=@runUnderlying153
theorem SA:type_of% @runUnderlying202:=@runUnderlying202
theorem fI:type_of% @runUnderlying204:=@runUnderlying204
theorem ae:type_of% @runUnderlying22:=@runUnderlying22
theorem Sz:type_of% @runUnderlying221:=@runUnderlying221
theorem Sy:type_of% @runUnderlying255:=@runUnderlying255
theorem c9:type_of% @runUnderlying256:=@runUnderlying256
theorem eC:type_of% @runUnderlying258:=@runUnderlying258
theorem lh:type_of% @runUnderlying28:=@runUnderlying28
theorem au:type_of% @runUnderlying296:=@runUnderlying296
theorem aF:type_of% @runUnderlying3:=@runUnderlying3
theorem dP:type_of% @runUnderlying306:=@runUnderlying306
theorem yD:type_of% @runUnderlying321:=@runUnderlying321
theorem qE:type_of% @runUnderlying33:=@runUnderlying33
theorem aO:type_of% @runUnderlying34:=@runUnderlying34
theorem bX:type_of% @runUnderlying35:=@runUnderlying35
theorem aC:type_of% @runUnderlying40:=@runUnderlying40
theorem aH:type_of% @runUnderlying44:=@runUnderlying44
theorem Bp:type_of% @runUnderlying55:=@runUnderlying55
theorem c8:type_of% @runUnderlying56:=@runUnderlying56
theorem iZ:type_of% @runUnderlying61:=@runUnderlying61
theorem lg:type_of% @runUnderlying74:=@runUnderlying74
theorem gJ:type_of% @runUnderlying76:=@runUnderlying76
theorem iY:type_of% @runUnderlying78:=@runUnderlying78
theorem c7:type_of% @runUnderlying80:=@runUnderlying80
theorem ck:type_of% @sizeOf109:=@sizeOf109
theorem bF:type_of% @sizeOf112:=@sizeOf112
theorem OC:type_of% @sizeOf117:=@sizeOf117
theorem bP:type_of% @sizeOf127:=@sizeOf127
theorem DH:type_of% @sizeOf138:=@sizeOf138
theorem DG:type_of% @sizeOf145:=@sizeOf145
theorem kF:type_of% @sizeOf149:=@sizeOf149
theorem iL:type_of% @sizeOf153:=@sizeOf153
theorem vW:type_of% @sizeOf207:=@sizeOf207
theorem aL:type_of% @sizeOf22:=@sizeOf22
theorem OB:type_of% @sizeOf296:=@sizeOf296
theorem ak:type_of% @sizeOf3:=@sizeOf3
theorem aM:type_of% @sizeOf321:=@sizeOf321
theorem aJ:type_of% @sizeOf33:=@sizeOf33
theorem Bo:type_of% @sizeOf34:=@sizeOf34
theorem J1:type_of% @sizeOf35:=@sizeOf35
theorem aV:type_of% @sizeOf37:=@sizeOf37
theorem eA:type_of% @sizeOf4:=@sizeOf4
theorem Bn:type_of% @sizeOf42:=@sizeOf42
theorem Bm:type_of% @sizeOf51:=@sizeOf51
theorem ea:type_of% @sizeOf55:=@sizeOf55
theorem mC:type_of% @sizeOf58:=@sizeOf58
theorem u9:type_of% @sizeOf69:=@sizeOf69
theorem dZ:type_of% @sizeOf74:=@sizeOf74
theorem bh:type_of% @sizeOf76:=@sizeOf76
theorem de:type_of% @sizeOf78:=@sizeOf78
theorem aD:type_of% @sizeOf80:=@sizeOf80
theorem qD:type_of% @typeInfo3:=@typeInfo3
theorem Sx:type_of% @typeInfo321:=@typeInfo321
theorem qJ:type_of% @underlying27:=@underlying27
theorem uR:type_of% @underlying3:=@underlying3
theorem jU:type_of% @zeroValue109:=@zeroValue109
theorem jT:type_of% @zeroValue112:=@zeroValue112
theorem qI:type_of% @zeroValue127:=@zeroValue127
theorem qH:type_of% @zeroValue138:=@zeroValue138
theorem Md:type_of% @zeroValue153:=@zeroValue153
theorem gp:type_of% @zeroValue22:=@zeroValue22
theorem dA:type_of% @zeroValue3:=@zeroValue3
theorem fj:type_of% @zeroValue321:=@zeroValue321
theorem gn:type_of% @zeroValue33:=@zeroValue33
theorem iF:type_of% @zeroValue37:=@zeroValue37
theorem IX:type_of% @zeroValue4:=@zeroValue4
theorem uQ:type_of% @zeroValue55:=@zeroValue55
theorem DF:type_of% @zeroValue58:=@zeroValue58
theorem iE:type_of% @zeroValue76:=@zeroValue76
theorem nX:type_of% @zeroValue78:=@zeroValue78
theorem cO:type_of% @zeroValue80:=@zeroValue80
end Go.Proofs.YtlgfjghdgbhkhaaGreat
namespace Go.Proofs.YtlgfjghdgbhkhaaGreat
open Go.MW Go.ChangeShapes Go.WideShapes Tryz
set_option maxRecDepth 100000
theorem F8:Tryz.prog.cellsOf 3=1:=by kernel_rfl
theorem JU:Tryz.prog.cellsOf 22=1:=by kernel_rfl
theorem R4:Tryz.prog.bytesOf 3=8:=by kernel_rfl
theorem G3:reachBytes=140737488351232:=rfl
section
variable{H:Type}{enc:TypeId×Value→H}{w:World}{sp:Nat→Bool}{held:Bool}{n:Nat}{cs:List Value}{y:DataW H×List MemPlace}{v:Value}{d:DataW H}{p:List MemPlace}{r:Reach}{base:Nat}
theorem EE(hw:Wt Tryz.prog 22 y.1)(h:DataW.trod enc Tryz.prog w 0 sp held n 22 cs=some y):∃v xs,cs=[v]∧RI (hp w) v xs∧Sv xs:=by
 obtain ⟨v,xs,h1,h2,h3,h4⟩:=J9 underlying22 uR F8 hw h;rw [R4,G3] at h3;exact ⟨v,xs,h1,h2,aj,h4⟩
theorem open_ints(hv:Value.okWide Tryz.prog w r base 22 v)(h:DataW.Trod enc Tryz.prog w 0 sp held 22 v d p)(hw:Wt Tryz.prog 22 d):∃l,RI (hp w) v l∧Sv l:=by
 obtain ⟨n,hn⟩:=Gc underlying22 hv h;obtain ⟨v,ls,h1,h2,h3⟩:=EE hw hn;cases h1
 exact ⟨ls,h2,h3⟩
end
end Go.Proofs.YtlgfjghdgbhkhaaGreat
namespace Go.Proofs.YtlgfjghdgbhkhaaGreat
open Go.MW Go.ChangeShapes Go.WideShapes Tryz
set_option maxRecDepth 100000
theorem c_2:Tryz.prog.cellsOf 28=2:=by kernel_rfl
section
variable{H:Type}{enc:TypeId×Value→H}{w:World}{sp:Nat→Bool}{held:Bool}{n:Nat}{cs:List Value}{y:DataW H×List MemPlace}{v:Value}{d:DataW H}{p:List MemPlace}{r:Reach}{base:Nat}
theorem Hm(hv:Value.okWide Tryz.prog w r base 28 v)(h:DataW.Trod enc Tryz.prog w 0 sp held 28 v d p)(_:Wt Tryz.prog 28 d):∃x:Two,v= .agg #[I x.a,I x.b]∧I64 x.a∧I64 x.b:=by
 obtain ⟨cs,n,rfl,hn⟩:=Lt underlying28 hv h;obtain ⟨xs,h1,rfl,h3⟩:=wZ underlying28 uR F8 c_2 hn;obtain ⟨a,b,rfl⟩:=len2 h1;exact ⟨⟨a,b⟩,rfl,h3 a bj,h3 b bj⟩
end
end Go.Proofs.YtlgfjghdgbhkhaaGreat
namespace Go.Proofs.YtlgfjghdgbhkhaaGreat
open Go.MW Go.ChangeShapes Go.WideShapes Tryz
set_option maxRecDepth 100000
theorem IP:Tryz.prog.cellsOf 23=1:=by kernel_rfl
theorem IN:Tryz.prog.cellsOf 24=1:=by kernel_rfl
theorem c_53:Tryz.prog.cellsOf 117=5:=by kernel_rfl
theorem c_43:Tryz.prog.cellsOf 118=4:=by kernel_rfl
theorem TK:Tryz.prog.cellsOf 25=3:=by kernel_rfl
theorem Lr:Tryz.prog.cellsOf 27=7:=by kernel_rfl
theorem len7{α:Type}{l:List α}(h:l.length=7):∃a b c d e f g,l=[a,b,c,d,e,f,g]:=by match l,h with|[a,b,c,d,e,f,g],_=>exact ⟨a,b,c,d,e,f,g,rfl⟩
theorem JQ:∀{zs:List (List Int)},(∀z∈zs,z.length=5∧∀y∈z,I64 y)→∃ls:List F5,zs.map Is=ls.map F5.v
 |[],_=>⟨[],rfl⟩
 |z::zs,h=>by
  obtain ⟨ls,h1⟩:=JQ (fun c hc=>h c (.tail _ hc));obtain ⟨h3,_⟩:=h z (.head _)
  match z,h3 with
  |[a,b,c,d,e],_=>exact ⟨⟨a,b,c,d,e⟩::ls,by rw [List.map_cons,h1];rfl⟩
theorem JP:∀{zs:List (List Int)},(∀z∈zs,z.length=4∧∀y∈z,I64 y)→∃ls:List F4,zs.map Is=ls.map F4.v
 |[],_=>⟨[],rfl⟩
 |z::zs,h=>by
  obtain ⟨ls,h1⟩:=JP (fun c hc=>h c (.tail _ hc));obtain ⟨h3,_⟩:=h z (.head _)
  match z,h3 with
  |[a,b,c,d],_=>exact ⟨⟨a,b,c,d⟩::ls,by rw [List.map_cons,h1];rfl⟩
structure Sn where
 sp:List Int
 rs:List F5
 cs:List F4
 pk:List Int
 x:Int
 y:Int
 z:Int
def Ot(H:bC)(v:Value)(r:Sn):Prop:=∃vs v5 v4 vp,v= .agg #[vs,v5,v4,vp,I r.x,I r.y,I r.z]∧RI H vs r.sp∧RF5 H v5 r.rs∧RF4 H v4 r.cs∧RI H vp r.pk
section
variable{H:Type}{enc:TypeId×Value→H}{w:World}{sp:Nat→Bool}{held:Bool}{n:Nat}{cs:List Value}{y:DataW H×List MemPlace}{v:Value}{d:DataW H}{p:List MemPlace}{r:Reach}{base:Nat}
theorem Hq(hw:Wt Tryz.prog 23 y.1)(h:DataW.trod enc Tryz.prog w 0 sp held n 23 cs=some y):∃(v:Value) (ls:List F5),cs=[v]∧RF5 (hp w) v ls:=by
 obtain ⟨v,zs,h1,h2,_,h3⟩:=DY (k:=5) underlying23 underlying117 uR F8 e7 c_53 hw h;obtain ⟨ls,h4⟩:=JQ h3;exact ⟨v,ls,h1,by unfold RF5;rw [←h4];exact h2⟩
theorem Hp(hw:Wt Tryz.prog 24 y.1)(h:DataW.trod enc Tryz.prog w 0 sp held n 24 cs=some y):∃(v:Value) (ls:List F4),cs=[v]∧RF4 (hp w) v ls:=by
 obtain ⟨v,zs,h1,h2,_,h3⟩:=DY (k:=4) underlying24 underlying118 uR F8 e7 c_43 hw h;obtain ⟨ls,h4⟩:=JP h3;exact ⟨v,ls,h1,by unfold RF4;rw [←h4];exact h2⟩
theorem CS(hv:Value.okWide Tryz.prog w r base 27 v)(h:DataW.Trod enc Tryz.prog w 0 sp held 27 v d p)(hw:Wt Tryz.prog 27 d):∃q:Sn,Ot (hp w) v q∧True:=by
 obtain ⟨cs,n,rfl,hn,_⟩:=Dx qJ hv h;obtain ⟨ys,m,_,e,hlen,zr,hg⟩:=DataW.trod_struct qJ hn;cases e
 rw [Lr] at hlen;obtain ⟨c0,c1,c2,c3,c4,c5,c6,rfl⟩:=len7 hlen;obtain ⟨_,h0,k0⟩:=fld hg zr 0 rfl rfl rfl JU qJ hw;obtain ⟨_,h1,k1⟩:=fld hg zr 1 rfl rfl rfl IP qJ hw;obtain ⟨_,h2,k2⟩:=fld hg zr 2 rfl rfl rfl IN qJ hw;obtain ⟨_,h3,k3⟩:=fld hg zr 3 rfl rfl rfl JU qJ hw;obtain ⟨_,h4,k4⟩:=fld hg zr 4 rfl rfl rfl TK qJ hw;obtain ⟨v0,s0,e0,r0,i0⟩:=EE k0 h0;obtain ⟨v1,l1,e1,r1⟩:=Hq k1 h1;obtain ⟨v2,l2,e2,r2⟩:=Hp k2 h2;obtain ⟨v3,s3,e3,r3,i3⟩:=EE k3 h3;obtain ⟨xs,g1,g2,g3⟩:=wZ underlying25 uR F8 TK h4;obtain ⟨a,b,c,rfl⟩:=len3 g1;cases e0;cases e1;cases e2;cases e3;cases g2
 exact ⟨⟨s0,l1,l2,s3,a,b,c⟩,⟨_,_,_,_,rfl,r0,r1,r2,r3⟩,trivial⟩
end
end Go.Proofs.YtlgfjghdgbhkhaaGreat
namespace Go.Proofs.YtlgfjghdgbhkhaaGreat
theorem Lp:Tryz.prog.make=some .cut:=by kernel_rfl
theorem IM:Tryz.prog.mayEnter=true:=by kernel_rfl
theorem IJ:Tryz.prog.liftsFinal=false:=by kernel_rfl
theorem Lq:Tryz.prog.plainKeys=false:=by kernel_rfl
theorem F7:laidOutB Tryz.prog=true:=by kernel_rfl
theorem Lo:mapsRowed Tryz.prog=true:=by kernel_rfl
theorem IL:Tryz.prog.stopsHeard=true:=by kernel_rfl
theorem IH:Tryz.prog.stops=[]:=by kernel_rfl
theorem IK:Tryz.prog.stopKnobs=[]:=by kernel_rfl
theorem pj{a b:Bool}(h:a=true)(k:b=true):(a&&b)=true:=by rw [h,k];rfl
theorem Oj{α:Type}[BEq α][LawfulBEq α]{a b:α}(h:a=b):(a==b)=true:=by rw [h];exact beq_self_eq_true _
theorem Oi:ownKnob Tryz.prog.godebug=none:=by kernel_rfl
end Go.Proofs.YtlgfjghdgbhkhaaGreat
namespace Go.Proofs.YtlgfjghdgbhkhaaGreat
open Go.MW Tryz
variable{H:bC}{σ:List Ent}{a0 a1 a2 m most a hi lo z1 z2 z3 known fl id number day:Int}{ls:List Lim}{g cap b k b1 bf bt bl cl i bm bc bn:Nat}{s:Spc}{xs lf ws l x X Y sl pk days:List Int}{en:Ent}{ts:List TD}{vl vt vd vp vw vx v1 v2 vr vc d vh vs v5 v4 b' tap dn b2 c2 d2:Value}{sp:List Value}{t:TD}{rows:List (List Int)}{fL:List F5}{fV:List F4}{th:Bool}
theorem mix:Tryz.prog.follows .mixedOrders=true:=by kernel_rfl
theorem ni:FA Tryz.prog 27 0 0:=by
 have h:=eE (k:=0) runUnderlying27 rfl aL;exact h
theorem gC:FA Tryz.prog 27 1 1:=by
 have h:=eE (k:=1) runUnderlying27 rfl sizeOf23;exact h
theorem jC:FA Tryz.prog 27 2 2:=by
 have h:=eE (k:=2) runUnderlying27 rfl sizeOf24;exact h
theorem nh:FA Tryz.prog 27 3 3:=by
 have h:=eE (k:=3) runUnderlying27 rfl aL;exact h
theorem lT:FA Tryz.prog 31 0 0:=by
 have h:=eE (k:=0) runUnderlying31 rfl ak;exact h
theorem lS:FA Tryz.prog 31 1 1:=by
 have h:=eE (k:=1) runUnderlying31 rfl ak;exact h
theorem di:FA Tryz.prog 33 0 0:=by
 have h:=eE (k:=0) qE rfl ak;exact h
theorem cn:FA Tryz.prog 33 1 1:=by
 have h:=eE (k:=1) qE rfl ak;exact h
theorem a8:FA Tryz.prog 33 2 2:=by
 have h:=eE (k:=2) qE rfl aL;exact h
theorem aR:FA Tryz.prog 33 3 3:=by
 have h:=eE (k:=3) qE rfl aL;exact h
theorem dM:FA Tryz.prog 33 4 4:=by
 have h:=eE (k:=4) qE rfl sizeOf31;exact h
theorem aU:FA Tryz.prog 37 0 0:=by
 have h:=eE (k:=0) runUnderlying37 rfl aJ;exact h
theorem aN:FA Tryz.prog 37 1 6:=by
 have h:=eE (k:=1) runUnderlying37 rfl Bo;exact h
theorem cV:FA Tryz.prog 37 2 7:=by
 have h:=eE (k:=2) runUnderlying37 rfl J1;exact h
theorem gM:FA Tryz.prog 42 0 0:=by
 have h:=eE (k:=0) runUnderlying42 rfl sizeOf40;exact h
theorem xU:FA Tryz.prog 51 0 0:=by
 have h:=eE (k:=0) runUnderlying51 rfl ak;exact h
theorem iR:FA Tryz.prog 51 1 1:=by
 have h:=eE (k:=1) runUnderlying51 rfl ak;exact h
theorem fF:FA Tryz.prog 51 2 2:=by
 have h:=eE (k:=2) runUnderlying51 rfl ak;exact h
theorem k8:FA Tryz.prog 55 0 0:=by
 have h:=eE (k:=0) Bp rfl ak;exact h
theorem k7:FA Tryz.prog 55 1 1:=by
 have h:=eE (k:=1) Bp rfl ak;exact h
theorem vN:FA Tryz.prog 58 1 1:=by
 have h:=eE (k:=1) runUnderlying58 rfl ak;exact h
theorem ia:FA Tryz.prog 58 2 2:=by
 have h:=eE (k:=2) runUnderlying58 rfl aV;exact h
theorem eW:FA Tryz.prog 58 3 10:=by
 have h:=eE (k:=3) runUnderlying58 rfl sizeOf56;exact h
theorem xV:FA Tryz.prog 69 0 0:=by
 have h:=eE (k:=0) runUnderlying69 rfl ak;exact h
theorem qi:FA Tryz.prog 69 4 4:=by
 have h:=eE (k:=4) runUnderlying69 rfl ea;exact h
theorem jn:FA Tryz.prog 74 0 0:=by
 have h:=eE (k:=0) lg rfl ak;exact h
theorem jm:FA Tryz.prog 74 1 1:=by
 have h:=eE (k:=1) lg rfl ak;exact h
theorem dW:FA Tryz.prog 76 0 0:=by
 have h:=eE (k:=0) gJ rfl ak;exact h
theorem eJ:FA Tryz.prog 76 1 1:=by
 have h:=eE (k:=1) gJ rfl ak;exact h
theorem eI:FA Tryz.prog 76 2 2:=by
 have h:=eE (k:=2) gJ rfl ak;exact h
theorem dC:FA Tryz.prog 76 3 3:=by
 have h:=eE (k:=3) gJ rfl ak;exact h
theorem bY:FA Tryz.prog 76 4 4:=by
 have h:=eE (k:=4) gJ rfl ak;exact h
theorem dB:FA Tryz.prog 76 5 5:=by
 have h:=eE (k:=5) gJ rfl ak;exact h
theorem dk:FA Tryz.prog 76 6 6:=by
 have h:=eE (k:=6) gJ rfl ak;exact h
theorem eM:FA Tryz.prog 78 0 0:=by
 have h:=eE (k:=0) iY rfl ak;exact h
theorem ik:FA Tryz.prog 78 1 1:=by
 have h:=eE (k:=1) iY rfl ak;exact h
theorem fN:FA Tryz.prog 78 2 2:=by
 have h:=eE (k:=2) iY rfl ak;exact h
theorem eL:FA Tryz.prog 78 3 3:=by
 have h:=eE (k:=3) iY rfl ak;exact h
theorem fM:FA Tryz.prog 78 4 4:=by
 have h:=eE (k:=4) iY rfl ak;exact h
theorem eK:FA Tryz.prog 78 5 5:=by
 have h:=eE (k:=5) iY rfl ak;exact h
theorem cN:FA Tryz.prog 80 0 0:=by
 have h:=eE (k:=0) c7 rfl dZ;exact h
theorem cq:FA Tryz.prog 80 1 2:=by
 have h:=eE (k:=1) c7 rfl ak;exact h
theorem eY:FA Tryz.prog 80 2 3:=by
 have h:=eE (k:=2) c7 rfl ak;exact h
theorem dO:FA Tryz.prog 80 3 4:=by
 have h:=eE (k:=3) c7 rfl ak;exact h
theorem fT:FA Tryz.prog 80 4 5:=by
 have h:=eE (k:=4) c7 rfl ak;exact h
theorem eg:FA Tryz.prog 80 5 6:=by
 have h:=eE (k:=5) c7 rfl ak;exact h
theorem dx:FA Tryz.prog 80 6 7:=by
 have h:=eE (k:=6) c7 rfl ak;exact h
theorem fS:FA Tryz.prog 80 7 8:=by
 have h:=eE (k:=7) c7 rfl ak;exact h
theorem fR:FA Tryz.prog 80 8 9:=by
 have h:=eE (k:=8) c7 rfl ak;exact h
theorem cM:FA Tryz.prog 80 9 10:=by
 have h:=eE (k:=9) c7 rfl aJ;exact h
theorem dQ:FA Tryz.prog 80 10 16:=by
 have h:=eE (k:=10) c7 rfl bh;exact h
theorem ew:FA Tryz.prog 80 11 23:=by
 have h:=eE (k:=11) c7 rfl de;exact h
theorem nj:FA Tryz.prog 80 12 29:=by
 have h:=eE (k:=12) c7 rfl dZ;exact h
theorem dw:FA Tryz.prog 109 0 0:=by
 have h:=eE (k:=0) yF rfl ak;exact h
theorem dN:FA Tryz.prog 109 1 1:=by
 have h:=eE (k:=1) yF rfl ak;exact h
theorem eX:FA Tryz.prog 109 2 2:=by
 have h:=eE (k:=2) yF rfl ak;exact h
theorem ot:FA Tryz.prog 109 3 3:=by
 have h:=eE (k:=3) yF rfl ak;exact h
theorem bH:FA Tryz.prog 112 0 0:=by
 have h:=eE (k:=0) runUnderlying112 rfl ak;exact h
theorem bN:FA Tryz.prog 112 1 1:=by
 have h:=eE (k:=1) runUnderlying112 rfl sizeOf110;exact h
theorem mi:FA Tryz.prog 127 0 0:=by
 have h:=eE (k:=0) j7 rfl ak;exact h
theorem jM:FA Tryz.prog 127 1 1:=by
 have h:=eE (k:=1) j7 rfl ak;exact h
theorem cD:FA Tryz.prog 138 0 0:=by
 have h:=eE (k:=0) SC rfl ak;exact h
theorem bV:FA Tryz.prog 138 1 1:=by
 have h:=eE (k:=1) SC rfl ak;exact h
theorem dL:FA Tryz.prog 138 2 2:=by
 have h:=eE (k:=2) SC rfl ak;exact h
theorem cL:FA Tryz.prog 147 0 0:=by
 have h:=eE (k:=0) nY rfl mC;exact h
theorem ef:FA Tryz.prog 147 1 11:=by
 have h:=eE (k:=1) nY rfl eA;exact h
theorem hZ:FA Tryz.prog 147 2 12:=by
 have h:=eE (k:=2) nY rfl J1;exact h
theorem jl:FA Tryz.prog 147 3 13:=by
 have h:=eE (k:=3) nY rfl DG;exact h
theorem jk:FA Tryz.prog 147 4 14:=by
 have h:=eE (k:=4) nY rfl DG;exact h
theorem lV:FA Tryz.prog 149 0 0:=by
 have h:=eE (k:=0) runUnderlying149 rfl u9;exact h
theorem lU:FA Tryz.prog 149 1 6:=by
 have h:=eE (k:=1) runUnderlying149 rfl aV;exact h
theorem ng:FA Tryz.prog 153 0 0:=by
 have h:=eE (k:=0) SB rfl bF;exact h
theorem nf:FA Tryz.prog 153 1 2:=by
 have h:=eE (k:=1) SB rfl aL;exact h
theorem jB:FA Tryz.prog 153 2 3:=by
 have h:=eE (k:=2) SB rfl ak;exact h
theorem rI:FA Tryz.prog 202 0 0:=by
 have h:=eE (k:=0) SA rfl sizeOf199;exact h
theorem rH:FA Tryz.prog 202 1 1:=by
 have h:=eE (k:=1) SA rfl sizeOf200;exact h
theorem rG:FA Tryz.prog 202 2 2:=by
 have h:=eE (k:=2) SA rfl ak;exact h
theorem bT:FA Tryz.prog 207 0 0:=by
 have h:=eE (k:=0) runUnderlying207 rfl Bm;exact h
theorem ek:FA Tryz.prog 207 1 3:=by
 have h:=eE (k:=1) runUnderlying207 rfl aJ;exact h
theorem cS:FA Tryz.prog 221 0 0:=by
 have h:=eE (k:=0) Sz rfl aV;exact h
theorem eP:FA Tryz.prog 221 1 8:=by
 have h:=eE (k:=1) Sz rfl sizeOf124;exact h
theorem iQ:FA Tryz.prog 221 2 9:=by
 have h:=eE (k:=2) Sz rfl sizeOf110;exact h
theorem oq:FA Tryz.prog 243 0 0:=by
 have h:=eE (k:=0) runUnderlying243 rfl aL;exact h
theorem fQ:FA Tryz.prog 249 0 0:=by
 have h:=eE (k:=0) runUnderlying249 rfl ak;exact h
theorem jo:FA Tryz.prog 249 1 1:=by
 have h:=eE (k:=1) runUnderlying249 rfl ak;exact h
theorem fi:FA Tryz.prog 255 0 0:=by
 have h:=eE (k:=0) Sy rfl bF;exact h
theorem gD:FA Tryz.prog 255 1 2:=by
 have h:=eE (k:=1) Sy rfl aL;exact h
theorem dh:FA Tryz.prog 255 2 3:=by
 have h:=eE (k:=2) Sy rfl aL;exact h
theorem cj:FA Tryz.prog 321 0 0:=by
 have h:=eE (k:=0) yD rfl ak;exact h
theorem cI:FA Tryz.prog 321 1 1:=by
 have h:=eE (k:=1) yD rfl ak;exact h
theorem eu:FA Tryz.prog 321 2 2:=by
 have h:=eE (k:=2) yD rfl ak;exact h
theorem df:FA Tryz.prog 321 3 3:=by
 have h:=eE (k:=3) yD rfl ak;exact h
theorem si:qA Tryz.prog 31 [(0,1),(1,1)] [I 0,I 0]:=jE zeroValue31 rfl runUnderlying31 bj
theorem l5:qA Tryz.prog 33 [(0,1),(1,1),(2,1),(3,1),(4,2)] [I 0,I 0,.slice none 0 0,.slice none 0 0,I 0,I 0]:=jE gn rfl qE bj
theorem ox:qA Tryz.prog 37 [(0,6),(6,1),(7,1)] [I 0,I 0,.slice none 0 0,.slice none 0 0,I 0,I 0,.slice none 0 0,.slice none 0 0]:=jE iF rfl runUnderlying37 bj
theorem zX:qA Tryz.prog 42 [(0,1)] [.slice none 0 0]:=jE zeroValue42 rfl runUnderlying42 bj
theorem nq:qA Tryz.prog 51 [(0,1),(1,1),(2,1)] [I 0,I 0,I 0]:=jE zeroValue51 rfl runUnderlying51 bj
theorem l6:qA Tryz.prog 55 [(0,1),(1,1)] [I 0,I 0]:=jE uQ rfl Bp bj
theorem qx:qA Tryz.prog 58 [(0,1),(1,1),(2,8),(10,1)] [I 0,I 0,I 0,I 0,.slice none 0 0,.slice none 0 0,I 0,I 0,.slice none 0 0,.slice none 0 0,.slice none 0 0]:=jE DF rfl runUnderlying58 bj
theorem zW:qA Tryz.prog 69 [(0,1),(1,1),(2,1),(3,1),(4,2)] [I 0,I 0,I 0,I 0,I 0,I 0]:=jE zeroValue69 rfl runUnderlying69 bj
theorem l7:qA Tryz.prog 74 [(0,1),(1,1)] [I 0,I 0]:=jE zeroValue74 rfl lg bj
theorem uG:qA Tryz.prog 76 [(0,1),(1,1),(2,1),(3,1),(4,1),(5,1),(6,1)] [I 0,I 0,I 0,I 0,I 0,I 0,I 0]:=jE iE rfl gJ bj
theorem uH:qA Tryz.prog 78 [(0,1),(1,1),(2,1),(3,1),(4,1),(5,1)] [I 0,I 0,I 0,I 0,I 0,I 0]:=jE nX rfl iY bj
theorem eS:qA Tryz.prog 80 [(0,2),(2,1),(3,1),(4,1),(5,1),(6,1),(7,1),(8,1),(9,1),(10,6),(16,7),(23,6),(29,2)] [I 0,I 0,I 0,I 0,I 0,I 0,I 0,I 0,I 0,I 0,I 0,I 0,.slice none 0 0,.slice none 0 0,I 0,I 0,I 0,I 0,I 0,I 0,I 0,I 0,I 0,I 0,I 0,I 0,I 0,I 0,I 0,I 0,I 0]:=jE cO rfl c7 bj
theorem dm:qA Tryz.prog 109 [(0,1),(1,1),(2,1),(3,1)] [I 0,I 0,I 0,I 0]:=jE jU rfl yF bj
theorem k9:qA Tryz.prog 112 [(0,1),(1,1)] [I 0,.slice none 0 0]:=jE jT rfl runUnderlying112 bj
theorem gH:qA Tryz.prog 127 [(0,1),(1,1)] [I 0,I 0]:=jE qI rfl j7 bj
theorem qw:qA Tryz.prog 138 [(0,1),(1,1),(2,1)] [I 0,I 0,I 0]:=jE qH rfl SC bj
theorem yk:qA Tryz.prog 147 [(0,11),(11,1),(12,1),(13,1),(14,1),(15,1)] [I 0,I 0,I 0,I 0,.slice none 0 0,.slice none 0 0,I 0,I 0,.slice none 0 0,.slice none 0 0,.slice none 0 0,.bool false,.slice none 0 0,.slice none 0 0,.slice none 0 0,.slice none 0 0]:=jE zeroValue147 rfl nY bj
theorem zY:qA Tryz.prog 149 [(0,6),(6,8)] [I 0,I 0,I 0,I 0,I 0,I 0,I 0,I 0,.slice none 0 0,.slice none 0 0,I 0,I 0,.slice none 0 0,.slice none 0 0]:=jE zeroValue149 rfl runUnderlying149 bj
theorem e9:qA Tryz.prog 153 [(0,2),(2,1),(3,1)] [I 0,.slice none 0 0,.slice none 0 0,I 0]:=jE Md rfl SB bj
theorem il:qA Tryz.prog 202 [(0,1),(1,1),(2,1)] [.nilFunc,.nilFunc,I 0]:=jE zeroValue202 rfl SA bj
theorem sO:qA Tryz.prog 207 [(0,3),(3,6)] [I 0,I 0,I 0,I 0,I 0,.slice none 0 0,.slice none 0 0,I 0,I 0]:=jE zeroValue207 rfl runUnderlying207 bj
theorem rM:qA Tryz.prog 221 [(0,8),(8,1),(9,1)] [I 0,I 0,.slice none 0 0,.slice none 0 0,I 0,I 0,.slice none 0 0,.slice none 0 0,.slice none 0 0,.slice none 0 0]:=jE zeroValue221 rfl Sz bj
theorem yj:qA Tryz.prog 243 [(0,1)] [.slice none 0 0]:=jE zeroValue243 rfl runUnderlying243 bj
theorem ym:qA Tryz.prog 249 [(0,1),(1,1)] [I 0,I 0]:=jE zeroValue249 rfl runUnderlying249 bj
theorem ow:qA Tryz.prog 255 [(0,2),(2,1),(3,1)] [I 0,.slice none 0 0,.slice none 0 0,.slice none 0 0]:=jE zeroValue255 rfl Sy bj
theorem ou:qA Tryz.prog 321 [(0,1),(1,1),(2,1),(3,1)] [I 0,I 0,I 0,I 0]:=jE fj rfl yD bj
theorem sh:vV Tryz.prog 22 0 1 []:=lZ ae ak dA e7 az
theorem bL:vV Tryz.prog 22 1 1 [I 0]:=lZ ae ak dA e7 az
theorem dR:vV Tryz.prog 22 2 1 [I 0,I 0]:=lZ ae ak dA e7 az
theorem kT:vV Tryz.prog 22 3 1 [I 0,I 0,I 0]:=lZ ae ak dA e7 az
theorem nU:vV Tryz.prog 34 0 7 []:=lZ aO bh iE e7 az
theorem dz:vV Tryz.prog 34 1 7 [I 0,I 0,I 0,I 0,I 0,I 0,I 0]:=lZ aO bh iE e7 az
theorem nV:vV Tryz.prog 35 0 6 []:=lZ bX de nX e7 az
theorem gW:vV Tryz.prog 35 1 6 [I 0,I 0,I 0,I 0,I 0,I 0]:=lZ bX de nX e7 az
theorem vP:vV Tryz.prog 40 1 1 [.slice none 0 0]:=lZ aC aL gp e7 az
theorem vO:vV Tryz.prog 40 2 1 [.slice none 0 0,.slice none 0 0]:=lZ aC aL gp e7 az
theorem eR:vV Tryz.prog 44 1 31 [I 0,I 0,I 0,I 0,I 0,I 0,I 0,I 0,I 0,I 0,I 0,I 0,.slice none 0 0,.slice none 0 0,I 0,I 0,I 0,I 0,I 0,I 0,I 0,I 0,I 0,I 0,I 0,I 0,I 0,I 0,I 0,I 0,I 0]:=lZ aH aD cO e7 az
theorem qv:vV Tryz.prog 44 2 31 [I 0,I 0,I 0,I 0,I 0,I 0,I 0,I 0,I 0,I 0,I 0,I 0,.slice none 0 0,.slice none 0 0,I 0,I 0,I 0,I 0,I 0,I 0,I 0,I 0,I 0,I 0,I 0,I 0,I 0,I 0,I 0,I 0,I 0,I 0,I 0,I 0,I 0,I 0,I 0,I 0,I 0,I 0,I 0,I 0,I 0,.slice none 0 0,.slice none 0 0,I 0,I 0,I 0,I 0,I 0,I 0,I 0,I 0,I 0,I 0,I 0,I 0,I 0,I 0,I 0,I 0,I 0]:=lZ aH aD cO e7 az
theorem rL:vV Tryz.prog 56 1 14 [I 0,I 0,I 0,I 0,I 0,I 0,I 0,I 0,.slice none 0 0,.slice none 0 0,I 0,I 0,.slice none 0 0,.slice none 0 0]:=lZ c8 kF zeroValue149 e7 az
theorem rK:vV Tryz.prog 61 1 6 [I 0,I 0,I 0,I 0,I 0,I 0]:=lZ iZ u9 zeroValue69 e7 az
theorem dU:vV Tryz.prog 110 2 4 [I 0,I 0,I 0,I 0,I 0,I 0,I 0,I 0]:=lZ a7 ck jU e7 az
theorem gV:vV Tryz.prog 124 1 2 [I 0,I 0]:=lZ br bP qI e7 az
theorem eQ:vV Tryz.prog 145 1 2 [I 0,I 0]:=lZ runUnderlying145 dZ zeroValue74 e7 az
theorem yi:vV Tryz.prog 222 6 1 [.nilFunc,.nilFunc,.nilFunc,.nilFunc,.nilFunc,.nilFunc]:=lZ runUnderlying222 sizeOf1 zeroValue1 e7 az
theorem ph:vV Tryz.prog 296 1 4 [I 0,I 0,I 0,I 0]:=lZ au aM fj e7 az
theorem bM:DD Tryz.prog 22 22 3 1 8:=⟨ae,ae,ak,⟨_,qD,rfl,by decide⟩,⟨_,dA,rfl⟩⟩
theorem bI:DD Tryz.prog 34 34 76 7 56:=⟨aO,aO,bh,⟨_,typeInfo76,rfl,by decide⟩,⟨_,iE,rfl⟩⟩
theorem cz:DD Tryz.prog 35 35 78 6 48:=⟨bX,bX,de,⟨_,typeInfo78,rfl,by decide⟩,⟨_,nX,rfl⟩⟩
theorem po:DD Tryz.prog 40 40 22 1 24:=⟨aC,aC,aL,⟨_,typeInfo22,rfl,by decide⟩,⟨_,gp,rfl⟩⟩
theorem dH:DD Tryz.prog 44 44 80 31 280:=⟨aH,aH,aD,⟨_,typeInfo80,rfl,by decide⟩,⟨_,cO,rfl⟩⟩
theorem lK:DD Tryz.prog 56 56 149 14 176:=⟨c8,c8,kF,⟨_,typeInfo149,rfl,by decide⟩,⟨_,zeroValue149,rfl⟩⟩
theorem lJ:DD Tryz.prog 61 61 69 6 48:=⟨iZ,iZ,u9,⟨_,typeInfo69,rfl,by decide⟩,⟨_,zeroValue69,rfl⟩⟩
theorem bQ:DD Tryz.prog 110 110 109 4 32:=⟨a7,a7,ck,⟨_,typeInfo109,rfl,by decide⟩,⟨_,jU,rfl⟩⟩
theorem dS:DD Tryz.prog 124 124 127 2 16:=⟨br,br,bP,⟨_,typeInfo127,rfl,by decide⟩,⟨_,qI,rfl⟩⟩
theorem db:DD Tryz.prog 145 145 74 2 16:=⟨runUnderlying145,runUnderlying145,dZ,⟨_,typeInfo74,rfl,by decide⟩,⟨_,zeroValue74,rfl⟩⟩
theorem jY:DD Tryz.prog 296 296 321 4 32:=⟨au,au,aM,⟨_,Sx,rfl,by decide⟩,⟨_,fj,rfl⟩⟩
theorem eo{w:World}(hs:St H w σ):TN 115 [I a0,I a1,I a2] w fun v w'=>v= .bool (decide (a1≤a0∧a0≤a2))∧St H w' σ:=by
 refine Cl.o func115 ntmps115 ag3 ?_;refine .af (.zn zg (.af (.z zm (.z zm (.z pE (.z zm (.lI (t':=10) rfl (fun m6=>?_) (fun m6=>?_))))))))
 ·exact .T (.z zm (.T (.z zm (.T (.z pE (.z zpT (.zn zg (.ret (Fin.bw results115 rfl ⟨by simp [*],hs.out⟩)))))))))
 ·exact .Fs 3 3 true (.z zpF (.zn zg (.ret (Fin.bw results115 rfl ⟨by simp [*],hs.out⟩))))
theorem qs{w:World}{many:Int}{l:Lim}(hs:St H w σ):TN 190 [I many,.agg l.c.toArray] w fun v w'=>v= .bool (l.ok many)∧St H w' σ:=by
 refine Cl.o func190 ntmps190 ag2 ?_;refine .af (.bx hs fun b3 w hs=>?_);refine .zn zg (.af (.z (zfa dw) (.y hs (zld ai) (.z zm (.o (.call call115 rfl (eo hs) ?_))))));rintro _ w ⟨rfl,hs⟩;refine .z zm (.bif (t':=9) rfl (fun K4=>?_) (fun K4=>?_))
 ·refine .T (.z (zfa dN) (.T (.y hs (zld ai) (.T (.z zm (.T (.o (.call call115 rfl (eo hs) ?_))))))));rintro _ w ⟨rfl,hs⟩;refine .z zpT (.z zm (.bif (t':=15) rfl (fun zH=>?_) (fun zH=>?_)))
  ·refine .T (.z (zfa dw) (.T (.y hs (zld ai) (.T (.z (zfa dN) (.T (.y hs (zld ai) (.T (.z gL (.z zpT (.z zm (.F9 (t':=22) rfl (fun La=>?_) (fun La=>?_)))))))))))))
   ·refine .T (.z (zfa eX) (.T (.y hs (zld ai) (.T (.o (.call call115 rfl (eo hs) ?_))))));rintro _ w ⟨rfl,hs⟩;refine .z zpT (.z zm (.bif (t':=27) rfl (fun qf=>?_) (fun qf=>?_)))
    ·refine .T (.z (zfa ot) (.T (.y hs (zld ai) (.T (.o (.call call115 rfl (eo hs) ?_))))));rintro _ w ⟨rfl,hs⟩;exact .z zpT (.zn zg (.ret (Fin.bw results190 rfl ⟨by simp [Lim.ok, *],hs.out⟩)))
    ·exact .Fs 3 22 true (.z zpF (.zn zg (.ret (Fin.bw results190 rfl ⟨by simp [Lim.ok, *],hs.out⟩))))
   ·exact .Fs 3 17 true (.z zpF (.z zm (.Fs 3 22 true (.z zpF (.zn zg (.ret (Fin.bw results190 rfl ⟨by simp [Lim.ok, *],hs.out⟩)))))))
  ·exact .Fs 5 10 true (.z zpF (.z zm (.Fs 3 17 true (.z zpF (.z zm (.Fs 3 22 true (.z zpF (.zn zg (.ret (Fin.bw results190 rfl ⟨by simp [Lim.ok, *],hs.out⟩))))))))))
 ·exact .Fs 4 4 true (.z zpF (.z zm (.Fs 5 10 true (.z zpF (.z zm (.Fs 3 17 true (.z zpF (.z zm (.Fs 3 22 true (.z zpF (.zn zg (.ret (Fin.bw results190 rfl ⟨by simp [Lim.ok, *],hs.out⟩)))))))))))))
theorem yp{w:World}{v:Value}{cap:List Value}{p:Lim→Bool}(hs:St H w σ)(hr:RL H v ls)
  (hc:∀args w,(callFunc g args).run Tryz.prog w= .ok (.enter g args) w) (hp:∀w l,St H w σ→TN g ([.agg l.c.toArray]++cap) w fun u w'=>u= .bool (p l)∧St H w' σ):
  TN 235 [v,.func (.func g) #[] cap.toArray] w fun u w'=>u=I (match ls.findIdx? p with|some k=>(k:Int)|none=> -1)∧St H w' σ:=by
 obtain ⟨a,c,rfl⟩:=RS.shape hr;have hl:=(RS.len hr).2.2;refine Cl.o func235 ntmps235 ag2 ?_;refine .af (.zn zg (.seq (.af (.z zm (.q hs (Eu hr rfl a7) (.zn zm (.for (N:=(ls.map Lim.c).length) (J:=fun k fr w=>fr=[(1,.func (.func g) #[] cap.toArray),(0,.slice a (ls.map Lim.c).length c)]∧St H w σ∧∀j<k,∀l,ls[j]? =some l→p l=false) aj ?_ ?_ ?_)))))))
 ·exact .mk ⟨rfl,hs,fun j hj=>by omega⟩
 ·rintro k fr w hk ⟨rfl,hs,iI⟩;obtain ⟨l,hl⟩:=nth (l:=ls) (by simpa using hk);refine .block (.af (.z zm (.zn zg (.af (.z zm (.z zm (.z zm (.ixX hs hr rfl rfl a7 ck hl rfl ?_))))))));intro vQ o14 gY;refine .y hs (zls [_,_,_,_] ve ck) (.o (.nm (first:=[]) rfl rfl hc (hp _ _ hs) ?_));rintro _ w ⟨rfl,hs⟩;refine .nil (.cond rfl (fun dX=>?_) (fun dX=>?_))
  ·exact .af (.z zm (.zn zg (.ret (rB (rT (rB (rT (Fin.bw results235 rfl ⟨by rw [uz hl dX iI],hs⟩))))))))
  ·exact .skip (nB (nT (.mk ⟨rfl,hs,gq iI hl dX⟩)))
 ·rintro fr w ⟨rfl,hs,iI⟩;exact nT (.af (.zn zg (.ret (Fin.bw results235 rfl ⟨by rw [se (by simpa using iI)],hs⟩))))
theorem sU{w:World}{v:Value}{cap:List Value}{p:Lim→Bool}(hs:St H w σ)(hr:RL H v ls)
  (hc:∀args w,(callFunc g args).run Tryz.prog w= .ok (.enter g args) w) (hp:∀w l,St H w σ→TN g ([.agg l.c.toArray]++cap) w fun u w'=>u= .bool (p l)∧St H w' σ):
  TN 188 [v,.func (.func g) #[] cap.toArray] w fun u w'=>u= .bool (ls.any p)∧St H w' σ:=by
 refine Cl.o func188 ntmps188 ag2 ?_;refine .af (.zn zg (.af (.z zm (.z zm (.o (.call call235 rfl (yp hs hr hc hp) ?_))))));rintro _ w ⟨rfl,hs⟩;exact .z Bq (.zn zg (.ret (Fin.bw results188 rfl ⟨by rw [Bi];cases ls.findIdx? p<;>simp<;>omega,hs⟩)))
theorem yg{w:World}{many:Int}{v:Value}{l:Lim}(hs:St H w σ)(hm:Mem σ (.blk b [I many,v])):TN 189 [.agg l.c.toArray,Pt b] w fun v w'=>v= .bool (!l.ok many)∧St H w' σ:=by
 refine Cl.o func189 ntmps189 ag2 ?_;refine .af (.bx hs fun b2 w hs=>?_);refine .zn zg (.af (.z (zfa bH) (.q hs (eN rfl ai (.there hm) rfl) (.q hs (gw (vs:=l.c) rfl ve ck) (.o (.call call190 rfl (qs hs) ?_))))));rintro _ w ⟨rfl,hs⟩;exact .z iW (.zn zg (.ret (Fin.bw results189 rfl ⟨rfl,hs.out⟩)))
theorem jQ{w:World}{v:Value}{s:dd}(hs:St H w σ)(hr:RSy H v s):TN 113 [v] w fun v w'=>v=I s.check∧St H w' σ:=by
 obtain ⟨u,rfl,hr⟩:=hr;obtain ⟨a,c,rfl⟩:=RS.shape hr;refine Cl.o func113 ntmps113 ag1 ?_;refine .af (.bx hs fun b1 w hs=>?_);refine .zn zg (.seq (.block (.af (.z (zfa bH) (.y hs (zld ai) (.o (.call call115 rfl (eo hs) ?_)))))));rintro _ w ⟨rfl,hs⟩;refine .z iW (.zn zg (.cond rfl (fun hc3=>?_) (fun hc3=>?_)))
 ·exact .af (.zn zg (.ret (rB (rT (Fin.bw results113 rfl ⟨congrArg I (by unfold dd.check;(repeat' split)<;>simp_all<;>omega),hs.out⟩)))))
 ·refine .af (.z (zfa bN) (.y hs (zld fJ) (.q hs (Eu hr rfl a7) (.z uS (.zn zg (.cu rfl (fun DR=>?_) (fun DR=>?_)))))))
  ·exact .af (.zn zg (.ret (rB (rT (Fin.bw results113 rfl ⟨congrArg I (by unfold dd.check;(repeat' split)<;>simp_all<;>omega),hs.out⟩)))))
  ·refine .af (.z (zfa bN) (.y hs (zld fJ) (.q hs (dt (f:=[]) (c:=[_]) rfl rfl) (.o (.call call188 rfl (sU (p:=fun l=> !l.ok s.many) hs hr call189 (fun w l hs=>yg hs .here)) ?_)))));rintro _ w ⟨rfl,hs⟩;refine .zn zg (.cond rfl (fun iX=>?_) (fun iX=>?_))
   ·exact .af (.zn zg (.ret (rB (rT (Fin.bw results113 rfl ⟨congrArg I (by unfold dd.check;(repeat' split)<;>simp_all<;>omega),hs.out⟩)))))
   ·exact .skip (nB (nT (.af (.zn zg (.ret (Fin.bw results113 rfl ⟨congrArg I (by unfold dd.check;(repeat' split)<;>simp_all<;>omega),hs.out⟩))))))
theorem qo{s:dd}{u:Value}(bq:s.Ok)(hb:Row H b [I s.many,u])(hr:RL H u s.cR):ItA Tryz.prog 242 [Pt b] H s.cJ:=by
 intro l II Ix _ _ hy H0 Cr σf w hle zK hs;obtain ⟨a,c,rfl⟩:=RS.shape hr;have xP:cellAt H0 b 1=some (.slice a (s.cR.map Lim.c).length c):=cellAt.mono (by rw [hb.cell];rfl) hle;have hlen:=bq.len;refine Cl.o func242 ntmps242 ag2 ?_;refine .af (.z (zfa bN) (.y hs (zld fJ) (.q hs (Eu (hr.mono hle) rfl a7) (.zn zm (.for (N:=(s.cR.map Lim.c).length) (J:=fun k fr w=>fr=[(6,.slice a (s.cR.map Lim.c).length c),(0,.func (.yield l) #[] #[])]∧∃H1 σb,HLe H H1∧HLe H0 H1∧II k H1 σb∧St H1 w (σb++σf)) (by simp;omega) ?_ ?_ ?_)))))
 ·exact .mk ⟨rfl,H0,Cr,hle,HLe.refl _,zK,hs⟩
 ·rintro k fr w hk ⟨rfl,H1,σb,aq,eU,hI,hs⟩;obtain ⟨x,hx⟩:=nth (l:=s.cR) (by simpa using hk);obtain ⟨hA,hB,_⟩:=bq.arc (List.mem_of_getElem? hx) k;refine .block (.af (.z zm (.ixX hs (hr.mono aq) rfl rfl a7 ck hx rfl ?_)));intro Dv o11 uo;refine .q hs (bE (vs:=x.c) rfl ve ck uo) (.o (.alloc hs jU rfl fun b4 w hs=>?_));refine .z zg (.o (.aS (vs:=x.c) hs rfl rfl ck fun w hs=>?_));refine .nil (.af (.z zm (.z (zfa dw) (.y hs (zld ai) (.z (zfa dN) (.y hs (zld ai) (.z (zfa eX) (.y hs (zld ai) (.z zm (.z (zbd [_,_,_,_] ou) ?_))))))))));have Am:k<(s.cJ.map fun x=>[Value.agg x.v.toArray]).length:=by simp [dd.cJ,dY];simpa using hk
  have MU:(s.cJ.map fun x=>[Value.agg x.v.toArray])[k]=[.agg (x.arc k).v.toArray]:=by
   have:=j6 hx;rw [List.getElem_map];rw [List.getElem?_eq_some_iff] at this;obtain ⟨h1,h2⟩:=this;simp only [dd.cJ];rw [h2]
  have xH:=hy k Am H1 σb σf w aq hI hs.tail;rw [MU] at xH;refine .o (.yield (vs:=[.agg (x.arc k).v.toArray]) rfl (by simp [Arc.v,hA,hB];rfl) xH ?_);rintro v22 w ⟨H2,σ2,g1,hs,g3⟩;obtain ⟨bb,rfl,gT,gF⟩:=oA g3;refine .zn iW (.cond rfl (fun mZ=>?_) (fun mZ=>?_))
  ·exact .ret (rB (rT (rB (Fin.Mp results242 ⟨H2,σ2,eU.trans g1,hs,.inr (gF (by simpa using mZ))⟩))))
  ·exact .skip (nB (nT (.mk ⟨rfl,H2,σ2,aq.trans g1,eU.trans g1,gT (by simpa using mZ),hs⟩)))
 ·rintro fr w ⟨rfl,H1,σb,aq,eU,hI,hs⟩;exact Fin.uX results242 ⟨H1,σb,eU,hs,.inl (by simpa [dd.cJ,dY] using hI)⟩
theorem jO{w:World}{v:Value}{s:dd}(hs:St H w σ)(bq:s.Ok)(hr:RSy H v s):
  TN 209 [v] w fun v w'=>∃H1 b,HLe H H1∧v= .func (.func 242) #[] #[Pt b]∧ItA Tryz.prog 242 [Pt b] H1 s.cJ∧St H1 w' σ:=by
 obtain ⟨u,rfl,hr⟩:=hr;refine Cl.o func209 ntmps209 ag1 ?_;refine .af (.bx hs fun b1 w hs=>?_);refine .zn zg (.af (.q hs (dt (f:=[]) (c:=[_]) rfl rfl) (.zn zg (.ret (Fin.bw results209 rfl ?_)))));obtain ⟨H1,g1,g2,hs⟩:=hs.bK .here;exact ⟨H1,b1,g1,rfl,qo bq g2 (hr.mono g1),hs⟩
theorem kS{w:World}{N gf:Nat}{ar:List Arc}{cap:List Value}(hs:St H w σ)(hN:N≤64)(bq:qC ar (N+1))(oh:ItA Tryz.prog gf cap H ar)(hc:∀args w,(callFunc gf args).run Tryz.prog w= .ok (.enter gf args) w):
  TN 208 [I N,.func (.func gf) #[] cap.toArray] w fun v w'=>∃H1 bc bb s ov vo,HLe H H1∧v= .tuple #[.slice (some ⟨bc,0,none⟩) (N+1) (N+1),.slice (some ⟨bb,0,none⟩) (N+1) (N+1),vo]∧OvR H1 vo ov∧Ov (N+1) ar s ov∧St H1 w' (.blk bc (Is s.cost):: .blk bb (iU s.by_)::σ):=by
 refine Cl.o func208 ntmps208 ag2 ?_;refine .af (.o (.alloc hs gp rfl fun b4 w hs=>?_));refine .o (.alloc hs zeroValue296 rfl fun b5 w hs=>?_);refine .o (.alloc hs zeroValue297 rfl fun b6 w hs=>?_);refine .nil (.cut (fun fs w=>∃bc bb,nv fs ⟨70,[],[(1,.func (.func gf) #[] cap.toArray),(0,I N),(4,Pt b4),(5,Pt b5),(6,Pt b6)]⟩∧St H w (.blk b4 [.slice (some ⟨bc,0,none⟩) (N+1) (N+1)]:: .blk b5 [.slice (some ⟨bb,0,none⟩) (N+1) (N+1)]:: .blk b6 [.pointer none]:: .blk bc (Is (List.replicate (N+1) 0)):: .blk bb (iU (AL (N+1) 0))::σ)) ?_ ?_)
 ·refine .draw mix rfl hs fun w hs=>?_
  refine .zw 0 rfl zm ?_;refine .z 1 rfl cP ?_;refine .z 3 rfl zm ?_;refine .z 4 rfl cP ?_;refine .e2 (i:=2) (j:=5) az rfl rfl rfl rfl .none .none hs ?_ ?_
  ·refine .y9 (N+1) hs rfl rfl ae qD rfl ak dA aj ?_;intro Dv w hs;refine .go (.e2 (i:=5) (j:=6) az rfl rfl rfl rfl .none .none hs ?_ ?_)
   ·refine .Hv (N+1) hs rfl rfl au Sx rfl aM fj aj ?_;intro vQ w hs;refine .go (.E 6 hs ?_);refine .store hs rfl rfl aL ?_;intro w hs;refine .go (.E 7 hs ?_);refine .store hs rfl rfl OB ?_;intro w hs;exact .go (.D hs (nT ⟨Dv,vQ,bk,hs.sb⟩))
   ·refine .store hs rfl rfl aL ?_;intro w hs;refine .go (.E 5 hs ?_);refine .Hv (N+1) hs rfl rfl au Sx rfl aM fj aj ?_;intro vQ w hs;refine .go (.E 7 hs ?_);refine .store hs rfl rfl OB ?_;intro w hs;exact .go (.D hs (nT ⟨Dv,vQ,bk,hs.sb⟩))
  ·refine .Hv (N+1) hs rfl rfl au Sx rfl aM fj aj ?_;intro vQ w hs;refine .go (.E 2 hs ?_);refine .y9 (N+1) hs rfl rfl ae qD rfl ak dA aj ?_;intro Dv w hs;refine .go (.E 6 hs ?_);refine .store hs rfl rfl aL ?_;intro w hs;refine .go (.E 7 hs ?_);refine .store hs rfl rfl OB ?_;intro w hs;exact .go (.D hs (nT ⟨Dv,vQ,bk,hs.sb⟩))
 ·rintro s w ⟨bc,bb,lk,hs⟩;refine WE.sub ?_ lk;refine .seq (.af (.y hs (zld jV) (.z (cH au) (.zn zm (.for (N:=N+1) (J:=fun k fr w=>fr=[(1,.func (.func gf) #[] cap.toArray),(0,I N),(4,Pt b4),(5,Pt b5),(6,Pt b6)]∧St H w (.blk b4 [.slice (some ⟨bc,0,none⟩) (N+1) (N+1)]:: .blk b5 [.slice (some ⟨bb,0,none⟩) (N+1) (N+1)]:: .blk b6 [.pointer none]:: .blk bc (Is (List.replicate (N+1) 0)):: .blk bb (iU (AL (N+1) k))::σ)) aj ?_ ?_ ?_)))))
  ·exact .mk ⟨rfl,hs⟩
  ·rintro k fr w hk ⟨rfl,hs⟩;have Al:k<(AL (N+1) k).length:=by rw [AK aj];exact hk
   refine .block (.af (.z zm (.zn zg (.region (.y hs (zld jV) (.z zm ?_))))));first|(refine .ixw hs au aM ?_;intro Ma o22 km)|refine .z (tk au aM) ?_
   refine .z (zfa df) (.o (.store hs rfl rfl ak ?_ cZ (Cf Al aj) ((Ac Al _).trans (congrArg iU (Ht hk)))));intro w hs;exact .nil (nB (nT (.mk ⟨rfl,hs⟩)))
  ·rintro fr w ⟨rfl,hs⟩;refine nT (.seq (.af (.z zm (.z cP (.zn zm (.forD (N:=N+2) (J:=fun r ds fr w=>fr=[(1,.func (.func gf) #[] cap.toArray),(0,I N),(4,Pt b4),(5,Pt b5),(6,Pt b6)]∧∃Ds H1 s vo,ds=marks Ds∧HLe H H1∧u7 (N+1) ar r 0 none s∧(r=0∨∃x,OvR H1 vo (some x)∧u7 (N+1) ar (r - 1) ar.length (some x) s)∧St H1 w (.blk b4 [.slice (some ⟨bc,0,none⟩) (N+1) (N+1)]:: .blk b5 [.slice (some ⟨bb,0,none⟩) (N+1) (N+1)]:: .blk b6 [vo]:: .blk bc (Is s.cost):: .blk bb (iU s.by_)::(mes Ds++σ))) aj ?_ ?_ ?_))))))
   ·exact .mk (ds:=[]) ⟨rfl,[],H,⟨List.replicate (N+1) 0,List.replicate (N+1) ⟨0,0,0,-1⟩⟩,_,rfl,HLe.refl _,u7.init aj,.inl rfl,by rw [EK] at hs;exact hs⟩
   ·rintro r ds fr w hr ⟨rfl,Ds,H1,s,vo,rfl,aq,Tv,-,hs⟩;refine .block (.af (.o (.store hs rfl rfl sizeOf297 fun w hs=>?_)));refine .nil (.seq (.af (.zn zm (.block ?_))));refine .rangeFunc (gf:=gf) (cap:=cap) (xs:=ar.map fun x=>[.agg x.v.toArray]) (σb:=[.blk b4 [.slice (some ⟨bc,0,none⟩) (N+1) (N+1)],.blk b5 [.slice (some ⟨bb,0,none⟩) (N+1) (N+1)],.blk b6 [.pointer none],.blk bc (Is s.cost),.blk bb (iU s.by_)]) (σf:=mes Ds++σ) hs trivial rfl (oh.mono aq) hc bj rfl
     (I:=fun k H' σb=>∃s ov vo,σb=[.blk b4 [.slice (some ⟨bc,0,none⟩) (N+1) (N+1)],.blk b5 [.slice (some ⟨bb,0,none⟩) (N+1) (N+1)],.blk b6 [vo],.blk bc (Is s.cost),.blk bb (iU s.by_)]∧OvR H' vo ov∧u7 (N+1) ar r k ov s) (Ix:=fun _ _ _=>False) (by rintro k _ _ σ g1 ⟨s,ov,vo,g2,g3,g4⟩;exact ⟨s,ov,vo,g2,g3.mono g1,g4⟩) (fun _ _ _ _ _ h=>h)
     ⟨s,none,_,rfl,rfl,Tv⟩ ?_ ?_ (fun D c H' σb w _ h _=>h.elim)
    ·rintro l k hk H2 vZ tj w aW ⟨s,ov,vo,rfl,DM,hN⟩ hs ⟨rr,E9⟩;obtain ⟨x,hx⟩:=nth (l:=ar) (by simpa using hk);obtain ⟨c1,c2,c3,c4,c5,c6⟩:=bq.2 x (List.mem_of_getElem? hx);have MU:(ar.map fun x=>[Value.agg x.v.toArray])[k]=[.agg x.v.toArray]:=by rw [List.getElem_map];rw [List.getElem?_eq_some_iff] at hx;obtain ⟨h1,h2⟩:=hx;rw [h2]
     rw [MU];have Al:k<ar.length:=by simpa using hk
     have Il:=bq.1;have LR:=hN.lc;have DN:=hN.lb;have lo1:=hN.lo x.f c1;have QM:=hN.hi x.f c1;refine .region (.o (.alloc hs fj rfl fun b8 w hs=>?_));refine .o (.aS (vs:=x.v) hs rfl rfl aM fun w hs=>?_);refine .nil (nT ⟨H2,[.blk b8 x.v,.blk b4 [.slice (some ⟨bc,0,none⟩) (N+1) (N+1)],.blk b5 [.slice (some ⟨bb,0,none⟩) (N+1) (N+1)],.blk b6 [vo],.blk bc (Is s.cost),.blk bb (iU s.by_)],HLe.refl _,hs,?_⟩);rintro w tj - hs;refine .block (.seq (.draw mix rfl hs fun w hs=>?_));refine .y 0 rfl hs an ?_;refine .z 1 rfl (zfa cj) ?_;refine .y 2 rfl hs ai ?_;first|(refine .ixv 3 rfl hs ae ak ?_;intro Oq o34 nM)|refine .z 3 rfl (zix ae ak) ?_
     refine .y 4 rfl hs ai ?_;refine .z 5 rfl (zfa eu) ?_;refine .y 6 rfl hs ai ?_;refine .z 7 rfl cP ?_;refine .y 8 rfl hs an ?_;refine .z 9 rfl (zfa cI) ?_;refine .y 10 rfl hs ai ?_;first|(refine .ixv 11 rfl hs ae ak ?_;intro Ph o42 KZ)|refine .z 11 rfl (zix ae ak) ?_
     refine .y 12 rfl hs ai ?_;refine .z 13 rfl iG ?_;refine .D hs ?_;refine (.cu rfl (fun zD=>?_) (fun zD=>?_))
     ·refine .seq (.draw mix rfl hs fun w hs=>?_);refine .y 0 rfl hs an ?_;refine .z 1 rfl (zfa cI) ?_;refine .y 2 rfl hs ai ?_;refine .y 3 rfl hs jV ?_;refine .z 4 rfl (zfa cI) ?_;refine .y 5 rfl hs ai ?_;refine .y 6 rfl hs an ?_;refine .z 7 rfl (zfa cj) ?_;refine .y 8 rfl hs ai ?_;first|(refine .ixv 9 rfl hs ae ak ?_;intro b54 o54 Ic)|refine .z 9 rfl (zix ae ak) ?_
      refine .y 10 rfl hs ai ?_;refine .z 11 rfl (zfa eu) ?_;refine .y 12 rfl hs ai ?_;refine .z 13 rfl cP ?_;refine .vD (i:=14) (vs:=x.v) hs rfl az .none rfl mD aM ?_;first|(refine .ixv 15 rfl hs ae ak ?_;intro b60 o60 hc60)|refine .z 15 rfl (zix ae ak) ?_
      refine .E 16 hs ?_;refine .store hs rfl rfl ak ?_;intro w hs;refine .go ?_;first|(refine .ixw 17 rfl hs au aM ?_;intro b61 o61 A1)|refine .z 17 rfl (tk au aM) ?_
      refine .E 18 hs ?_;refine .aS (vs:=x.v) hs rfl rfl aM ?_;intro w hs;refine .go (.D hs (.region (.o (.store hs rfl rfl sizeOf297 fun w hs=>?_))));refine .nil (nB ?_);obtain ⟨H3,g1,g2,hs⟩:=hs.bK .here;exact ⟨H3,_,g1,hs,s.rlx x,some x,_,rfl,⟨b8,rfl,g2⟩,hN.yW bq hx zD⟩
     ·exact .skip (nB ⟨H2,_,HLe.refl _,hs.tail,s,ov,vo,rfl,DM,hN.skip bq hx (by unfold BS.can;omega)⟩)
    ·rintro D H2 vZ w aW ⟨s,ov,vo,rfl,DM,hN⟩ hs;obtain ⟨a',rfl,JG⟩:=DM.ptr;replace hs:St H2 w (.blk b4 [.slice (some ⟨bc,0,none⟩) (N+1) (N+1)]:: .blk b5 [.slice (some ⟨bb,0,none⟩) (N+1) (N+1)]:: .blk b6 [.pointer a']:: .blk bc (Is s.cost):: .blk bb (iU s.by_)::(mes (D::Ds)++σ)):=St.deep (σ1:=[_,_,_,_,_]) hs;have hN:u7 (N+1) ar r ar.length ov s:=by simpa using hN
     refine nB (nT (.af (.y hs (zld isAgg297) (.q hs (wz rfl rfl runUnderlying297) (.nil (.cond rfl (fun sF=>?_) (fun sF=>?_)))))))
     ·refine .seq (.draw mix rfl hs fun w hs=>?_);refine .y 0 rfl hs an ?_;refine .y 1 rfl hs jV ?_;refine .E 2 hs ?_;refine .store hs rfl rfl aL ?_;intro w hs;refine .go (.E 3 hs ?_);refine .store hs rfl rfl OB ?_;intro w hs;refine .go (.E 4 hs ?_);refine .store hs rfl rfl sizeOf297 ?_;intro w hs;refine .go (.D hs (.ret (rB (rT (rB (rT (?_)))))));obtain ⟨rfl,rfl⟩:=OvR.no JG sF;refine Fin.kY (D::Ds) [_,_,_,_,_] hs fun w hs=>⟨_,results3 results208 (CM hs rfl an) (CM hs rfl jV) (CM hs rfl isAgg297),H2,bc,bb,s,none,_,aq.trans aW,rfl,DM,⟨r,hN,fun h=>(h rfl).elim⟩,hs.sb⟩
     ·refine .skip (nB (nT ?_));obtain ⟨x,rfl⟩:=OvR.yes JG sF;exact .mk (ds:=marks (D::Ds)) ⟨rfl,D::Ds,H2,s,_,rfl,aq.trans aW,hN.next bq,.inr ⟨x,DM,hN⟩,hs⟩
   ·rintro ds fr w ⟨rfl,Ds,H1,s,vo,rfl,aq,Tv,hor,hs⟩;obtain ⟨x,DM,hN⟩:∃x,OvR H1 vo (some x)∧u7 (N+1) ar (N+2 - 1) ar.length (some x) s:=hor.resolve_left aj;obtain ⟨b3,rfl,oZ⟩:=DM;refine nT (.seq (.draw mix rfl hs fun w hs=>?_));refine .y 0 rfl hs an ?_;refine .y 1 rfl hs jV ?_;refine .y 2 rfl hs isAgg297 ?_;refine .E 3 hs ?_;refine .store hs rfl rfl aL ?_;intro w hs;refine .go (.E 4 hs ?_);refine .store hs rfl rfl OB ?_;intro w hs;refine .go (.E 5 hs ?_);refine .store hs rfl rfl sizeOf297 ?_;intro w hs;refine .go (.D hs (.ret (Fin.kY Ds [_,_,_,_,_] hs fun w hs=>⟨_,results3 results208 (CM hs rfl an) (CM hs rfl jV) (CM hs rfl isAgg297),H1,bc,bb,s,some x,_,aq,rfl,⟨b3,rfl,oZ⟩,⟨N+1,hN,fun _=>rfl⟩,hs.sb⟩)))
theorem qp{w:World}{v:Value}{s:dd}(hs:St H w σ)(bq:s.Ok)(hr:RSy H v s):
  TN 139 [v] w fun v w'=>∃H1 b,HLe H H1∧v= .bool b∧(b=true↔s.Sound)∧St H1 w' σ:=by
 obtain ⟨u,rfl,hr⟩:=hr;obtain ⟨N,hN⟩:=Int.eq_ofNat_of_zero_le bq.m0;have RO:=bq.m1;have hn:s.n=N+1:=by simp [dd.n,hN]
 have p6:=bq.cJ;rw [hn] at p6;rw [hN];refine Cl.o func139 ntmps139 ag1 ?_;refine .af (.bx hs fun b1 w hs=>?_);refine .zn zg (.seq (.draw mix rfl hs fun w hs=>?_));refine .zw 0 rfl (zfa bH) ?_;refine .y 1 rfl hs ai ?_;refine .ys 2 rfl hs [_,_] dp bF ?_;refine .E 3 hs ?_;refine .call call209 rfl (jO (s:=s) hs bq ⟨u,by rw [hN],hr⟩) ?_;rintro _ w ⟨H1,ib,aq,rfl,oh,hs⟩;refine .go (.E 4 hs ?_);refine .call call208 rfl (kS hs aj p6 oh call242) ?_;rintro _ w ⟨H2,bc,bb,st,ov,vo,aW,rfl,DM,LN,hs⟩;obtain ⟨a',rfl,JG⟩:=DM.ptr;refine .go (.zw 5 rfl zm ?_);refine .z 6 rfl zex ?_;refine .z 7 rfl zex ?_;refine .z 8 rfl zex ?_;refine .z 9 rfl zg ?_;refine .z 10 rfl zg ?_;refine .z 11 rfl zg ?_;refine .D hs ?_;refine .af (.z zm (.q hs (wz rfl rfl runUnderlying297) (.zn zg (.ret (Fin.bw results139 rfl ⟨H2,_,aq.trans aW,rfl,?_,hs.out⟩)))));obtain ⟨r,Gt,xI⟩:=LN
 cases ov with
 |none=>
  rw [JG];exact ⟨fun _=>⟨_,(Gt.sol p6 aj).1⟩,fun _=>rfl⟩
 |some x=>
  rw [JG];exact ⟨fun h=>(by cases h),fun h=>(Gt.none p6 aj (by have:=xI bj;omega) h).elim⟩
theorem oP{w:World}{c:Int}(hs:St H w σ)(hc:0≤c∧c<4294967296):TN 291 [.int .u64 1,.int .u64 c] w fun v w'=>v= .tuple #[.int .u64 0,.int .u64 c]∧St H w' σ:=by
 refine Cl.o func291 ntmps291 ag2 ?_;refine .af (.z zg (.zn zg (.af (.z zm ?_))));first|refine .q hs (Kn rfl rfl ⟨aj,aj⟩) ?_|refine .q hs (BG rfl rfl) ?_
 refine .zn zg (.af (.z zm ?_));first|refine .q hs (yY rfl rfl ⟨aj,aj⟩) ?_|refine .q hs (AD rfl rfl e7) ?_
 refine .zn zg (.af (.z zm ?_));first|refine .q hs (Kn rfl rfl ⟨aj,aj⟩) ?_|refine .q hs (BG rfl rfl) ?_
 refine .zn zg (.af (.z zm ?_));first|refine .q hs (yY rfl rfl ⟨aj,aj⟩) ?_|refine .q hs (AD rfl rfl e7) ?_
 refine .zn zg (.af (.z zm (.z zm (.z mm (.zn zg (.af (.z zm (.z zm (.z mm (.z zm ?_))))))))));first|refine .q hs (yY rfl rfl ⟨aj,aj⟩) ?_|refine .q hs (AD rfl rfl e7) ?_
 refine .z cP (.zn zg (.af (.z zm ?_)));first|refine .q hs (Kn rfl rfl ⟨aj,aj⟩) ?_|refine .q hs (BG rfl rfl) ?_
 refine .zn zg (.af (.z zm ?_));first|refine .q hs (yY rfl rfl ⟨aj,aj⟩) ?_|refine .q hs (AD rfl rfl e7) ?_
 refine .zn zg (.af (.z zm (.z zm (.z zm (.z mm (.z cP (.zn zg (.af (.z zm (.z zm (.z mm (.z zm (.z cP (.z zm ?_))))))))))))));first|refine .q hs (yY rfl rfl ⟨aj,aj⟩) ?_|refine .q hs (AD rfl rfl e7) ?_
 exact .z cP (.zn zg (.af (.z zm (.z zm (.z mm (.zn zg (.ret (Fin.oe results291 rfl rfl ⟨bj,hs⟩))))))))
theorem rf{w:World}{c:Int}(hs:St H w σ)(hc:0≤c∧c<4294967296):TN 277 [.int .u64 1,.int .u64 c] w fun v w'=>v= .tuple #[.int .u64 0,.int .u64 c]∧St H w' σ:=by
 refine Cl.o func277 ntmps277 ag2 ?_;refine .af (.z zg (.zn zg (.seq (.cF (.skip (nT (.af (.z zm (.z zm (.o (.call call291 rfl (oP hs hc) ?_)))))))))));rintro _ w ⟨rfl,hs⟩;exact .z zm (.z zex (.z zex (.z zg (.zn zg (.af (.z zm (.z zm (.z zg (.zn zg (.ret (Fin.oe results277 rfl rfl ⟨rfl,hs⟩)))))))))))
theorem FQ{c:Nat}{z:Int}:let n:=min k (c - k);(List.replicate k z++List.replicate (c - k) 0).take k++List.replicate n z++(List.replicate k z++List.replicate (c - k) 0).drop (k+n)=List.replicate (k+n) z++List.replicate (c - (k+n)) (0:Int):=by
 intro n;have hn:n≤c - k:=Nat.min_le_right _ _;have e0:(List.replicate k z).length=k:=by simp
 rw [List.take_left' e0];have e1:(List.replicate k z++List.replicate (c - k) 0).drop (k+n)=List.replicate (c - (k+n)) (0:Int):=by
  rw [show k+n=(List.replicate k z).length+n by simp,List.drop_append];simp;omega
 rw [e1,List.replicate_append_replicate]
theorem qV{w:World}{z:Int}{bx c:Nat}(hs:St H w σ)(hm:Mem σ (.blk bx (Is [z])))(h1:1≤c)(h2:c≤1000000):TN 243 [.slice (some ⟨bx,0,none⟩) 1 1,I c] w fun v w'=>∃b,v= .slice (some ⟨b,0,none⟩) c c∧St H w' (.blk b (Is (List.replicate c z))::σ):=by
 refine Cl.o func243 ntmps243 ag2 ?_;refine .af (.zn zg (.seq (.af (.z zm (.zn iG (.cu rfl (fun sH=>?_) (fun sH=>?_)))))))
 ·omega
 ·refine .skip (nT (.af (.z zm (.z (cH ae) ?_))));first|refine .q hs (xl rfl aF dP ⟨aj,aj⟩) ?_|refine .q hs (xk rfl aF dP ⟨aj,aj⟩) ?_|refine .q hs (yZ rfl aF dP) ?_
  refine .z zm ?_;first|refine .q hs (xl rfl aF dP ⟨aj,aj⟩) ?_|refine .q hs (xk rfl aF dP ⟨aj,aj⟩) ?_|refine .q hs (yZ rfl aF dP) ?_
  refine .o (.call call277 rfl (rf (c:=c) hs aj) ?_);rintro _ w ⟨rfl,hs⟩;refine .z zm (.z zex (.z zex (.z zg (.zn zg (.seq (.af (.z zm (.z uS (.z zm (.lI (t':=23) rfl (fun A6=>?_) (fun A6=>?_)))))))))))
  ·refine .Fs 2 2 false (.zn zpT (.cT ?_));first|omega|(simp at iJ;omega)
  ·refine .T (.z zm (.T (.z uS (.zn zpF (.cu rfl (fun iJ=>?_) (fun iJ=>?_))))))
   ·first|omega|(simp at iJ;omega)
   ·refine .skip (nT (.af (.z zm ?_)));first|refine .q hs (xl rfl dP aF ⟨aj,aj⟩) ?_|refine .q hs (xk rfl dP aF ⟨aj,aj⟩) ?_|refine .q hs (yZ rfl dP aF) ?_
    refine .o (.y9 c hs rfl rfl ae qD rfl ak dA aj fun Gb w hs=>?_);refine .zn zg (.af (.z zm (.z zm (.o (.Oh (k:=1) (xs:=List.replicate c 0) (zs:=[z]) hs rfl rfl ⟨_,_,rfl⟩ ae ak aj rfl (zS (xs:=[z]) (.there hm) rfl rfl) (by simp;omega) ?_)))));intro w hs;refine .zn zg (.seq (.block ?_));refine .loop (fun k:Nat=>⟨48,[],[(8,I k),(7,.slice (some ⟨Gb,0,none⟩) c c)]⟩) (fun k w=>(1≤k∧k≤c)∧St H w (.blk Gb (Is (List.replicate k z++List.replicate (c - k) 0))::σ)) (fun k=>c - k) 1 bk ⟨⟨aj,aj⟩,by
      have e:List.take 0 (List.replicate c (0:Int))++[z]++List.drop (0+1) (List.replicate c 0)=List.replicate 1 z++List.replicate (c - 1) 0:=by simp
      rw [e] at hs;exact hs⟩ ?_
    rintro k w ⟨⟨k1,k2⟩,hs⟩;refine .seq (.af (.z zm (.z zm (.z (cH ae) (.zn iG (.cu rfl (fun rC=>?_) (fun rC=>?_)))))))
    ·refine .skip (nT (.block (.draw mix rfl hs fun w hs=>?_)));refine .zw 0 rfl zm ?_;refine .z 1 rfl zm ?_;refine .z 2 rfl zm ?_;refine .zw 3 rfl (Ep (k:=k) rfl rfl ae ak aj aj) (.zw 4 rfl zm ?_);refine .z 5 rfl zm ?_;refine .zw 6 rfl (yX (k:=k) rfl rfl ae ak aj) (.E 7 hs ?_);refine .Oh (k:=min k (c - k)) (xs:=List.replicate k z++List.replicate (c - k) 0) (zs:=List.replicate (min k (c - k)) z) hs rfl rfl ⟨_,_,rfl⟩ ae ak rfl bj (zS (xs:=List.replicate k z++List.replicate (c - k) 0) .here (by rw [List.drop_zero,List.take_append_of_le_length (by simp;omega)];simp) bj) (by simp;omega) ?_;intro w hs;refine .go (.zw 8 rfl cP ?_);refine .z 9 rfl zg ?_;refine .D hs ?_;refine nB (nT ?_);exact ⟨k+min k (c - k),bk,⟨⟨aj,aj⟩,by
       have e:=FQ (z:=z) (c:=c) (k:=k);simp only [Nat.mul_one,Nat.zero_add] at hs;rw [e] at hs;exact hs⟩,aj⟩
    ·refine .exit (xT (xT (xB (nT (.af (.z zm (.zn zg (.ret (Fin.bw results243 rfl ?_)))))))));obtain rfl:k=c:=by omega
     exact ⟨Gb,rfl,by simpa using hs⟩
theorem qW{w:World}{v:Value}(hs:St H w σ)(hr:RI H v xs)(hx:xs.length≤17592186044416):TN 210 [v] w fun u w'=>∃en,(MM v=true→MM u=true)∧bG 1 u (Is xs) en∧St H w' (en::σ):=by
 obtain ⟨a,c,rfl⟩:=RI.shape hr;have hl:=(RI.len hr).2.2;refine Cl.o func210 ntmps210 ag1 ?_;refine .af (.zn zg (.seq (.af (.z zm (.q hs (Ey rfl rfl ae) (.nil (.cond rfl (fun Jz=>?_) (fun Jz=>?_))))))))
 ·refine .af (.zn zg (.ret (rT (Fin.bw results210 rfl ?_))));obtain rfl:a=none:=by simpa using Jz
  obtain rfl:=hr.EF;exact ⟨.nul,fun h=>h,.nil 1 none,hs.nul⟩
 ·refine .skip (nT (.af (.o (.buildSlice (cells:=[]) hs sh rfl rfl fun b5 w hs=>?_))));refine .z zm (.o (.Gd (xs:=[]) (ys:=Is xs) hs bM rfl rfl (.full rfl) (.ints hr) (by simp [Value.oneCell']) (fun l h=>by simp at h;omega) ?_));intro v7 en7 w Fc hO hs;exact .zn zg (.ret (Fin.bw results210 rfl ⟨en7,fun _=>Fc rfl,hO,hs⟩))
theorem ig{w:World}{v:Value}(hs:St H w σ)(hr:RI H v xs)(hx:xs.length≤17592186044416):TN 210 [v] w fun v w'=>∃en,bG 1 v (Is xs) en∧St H w' (en::σ):=
 (qW hs hr hx).mono fun _ _ ⟨en,_,h⟩=>⟨en,h⟩
theorem oI{w:World}{v:Value}{l:List Arc}(hs:St H w (en::σ))(ho:bG 4 v (iU l) en)(hl:l.length≤1000000):
  TN 244 [v] w fun _ w'=>∃iT,bG 4 v (iU l.reverse) iT∧St H w' (iT::σ):=by
 rcases ho with ⟨a,rfl,h2,rfl⟩|⟨b,len,cap,sp,rfl,rfl,h2,h3,h4⟩
 ·obtain rfl:l=[]:=by
   have:=congrArg List.length h2;rw [dc] at this;exact List.length_eq_zero_iff.1 (by simp at this;omega)
  have hs:=hs.tail;refine Cl.o func244 ntmps244 ag1 ?_;refine .af (.z zm (.z (cH au) (.z jc (.z zg (.zn zg (.block (.loop (fun _:Unit=>⟨28,[],[(2,I 0),(3,I (-1))]⟩) (fun _ w=>St H w σ) (fun _=>0) () bk hs ?_)))))));rintro _ w hs;refine .seq (.af (.z zm (.z zm (.zn iG (.cu rfl (fun pC=>?_) (fun pC=>?_))))))
  ·omega
  ·exact .exit (xT (xT (xB (Fin.uX results244 ⟨.nul,.nil 4 a,hs.nul⟩))))
 obtain rfl:len=l.length:=by rw [dc] at h2;omega
 refine Cl.o func244 ntmps244 ag1 ?_;refine .af (.z zm (.z (cH au) (.z jc (.z zg (.zn zg (.block (.loop (fun p:Nat×List Arc=>⟨28,[],[(2,I p.1),(3,I ((l.length:Int) - 1 - p.1)),(0,.slice (some ⟨b,0,none⟩) l.length cap)]⟩) (fun p w=>(2*p.1≤l.length+1∧sj l p.2 p.1)∧St H w (.blk b (iU p.2++sp)::σ)) (fun p=>l.length - p.1) (0,l) (.cons rfl (.dI rfl bj (.cons rfl (.nil rfl rfl)))) ⟨⟨bj,.start l⟩,hs⟩ ?_)))))));rintro ⟨i,L⟩ w ⟨⟨h5,h6⟩,hs⟩;dsimp only at h5 h6 hs ⊢;have hL:=h6.1;refine .seq (.af (.z zm (.z zm (.zn iG (.cu rfl (fun pC=>?_) (fun pC=>?_))))))
 ·refine .skip (nT (.seq (.block (.draw mix rfl hs fun w hs=>?_))));refine .zw 0 rfl zm ?_;refine .z 1 rfl zm ?_;refine .z 2 rfl zm ?_;refine .z 3 rfl zm ?_;refine .z 4 rfl zm ?_;refine .z 5 rfl zm ?_;refine .zw 6 rfl (wy (k:=l.length - 1 - i) rfl rfl au aM aj aj) (.vD (i:=7) (vs:=(ga L (l.length - 1 - i)).v) hs rfl az .none rfl mD aM ?_ (hv:=uN aj sp));refine .zw 8 rfl zm ?_;refine .z 9 rfl zm ?_;first|(refine .ixw 10 rfl hs au aM ?_;intro Sa o24 rE)|refine .z 10 rfl (tk au aM) ?_
  refine .vD (i:=11) (vs:=(ga L i).v) hs rfl az .none rfl mD aM ?_ (hv:=uN aj sp);first|(refine .ixw 12 rfl hs au aM ?_;intro R9 o26 iJ)|refine .z 12 rfl (tk au aM) ?_
  refine .E 13 hs ?_;refine .aS (vs:=(ga L (l.length - 1 - i)).v) hs rfl rfl aM ?_ cZ (uF aj sp) (rR aj _ sp);intro w hs;refine .go (.zw 14 rfl (wy (k:=l.length - 1 - i) rfl rfl au aM aj aj) (.E 15 hs ?_));refine .aS (vs:=(ga L i).v) hs rfl rfl aM ?_ cZ (uF (by simp;omega) sp) (rR (by simp;omega) _ sp);intro w hs;exact .go (.D hs (nB (nT (.region (.z zm (.z cP (.z zm (.z jc (.z zg (.zn zg (nT ⟨(i+1,_),.cons rfl (.dI rfl (by push_cast;omega) (.cons rfl (.nil rfl rfl))),⟨⟨by dsimp only;omega,h6.step aj⟩,hs⟩,by dsimp only;omega⟩)))))))))))
 ·refine .exit (xT (xT (xB ?_)));rw [h6.done aj] at hs;exact Fin.uX results244 ⟨_,.inr ⟨b,l.length,cap,sp,rfl,rfl,by rw [dc];simp,by rw [←h3];simp [dc],h4⟩,hs⟩
theorem mA{s:dd}{ts:List Int}(bq:s.Ok)(hb:Row H b1 [Pt bf])(hF:vT H bf s ts lf vl bt bl cl sp)(fu:ts.length=s.cR.length):
  ItA Tryz.prog 271 [Pt b1] H (dD s.cJ ts):=by
 intro l II Ix Ak HQ hy H0 Cr σf w hle zK hs;have FG:cellAt H0 b1 0=some (Pt bf):=(hb.mono hle).at 0;have Pd:=hF.mono hle;have MY:=Pd.f.cells 0 [I s.many,vl];have hlen:s.cJ.length=ts.length:=by simp [dd.cJ,dY,fu]
 refine Cl.o func271 ntmps271 ag2 ?_;refine .af (.bx hs fun b2 w hs=>?_);refine .nil (.af (.y hs (zld J4) (.z znc (.z (zfa fi) (.q hs (bE (vs:=[I s.many,vl]) rfl dp bF MY) (.o (.call call209 rfl (jO (s:=s) hs bq ⟨vl,rfl,Pd.l⟩) ?_)))))));rintro _ w ⟨H1,b8,aq,rfl,oh,hs⟩;refine .nil (.block ?_);refine .rangeFunc (gf:=242) (cap:=[Pt b8]) (xs:=s.cJ.map fun x:Arc=>[Value.agg x.v.toArray]) (σb:= .blk b2 [.func (.yield l) #[] #[]]::Cr) (σf:=σf) hs trivial rfl oh call242 bj rfl
  (I:=fun k H' σb=>∃σo,σb= .blk b2 [.func (.yield l) #[] #[]]::σo∧HLe H0 H'∧II (BI s.cJ ts k) H' σo)
  (Ix:=fun c H' σb=>c= .ret∧∃σo,σb= .blk b2 [.func (.yield l) #[] #[]]::σo∧HLe H0 H'∧Ix H' σo)
  (fun k _ _ σ g1 ⟨σo,g2,g3,g4⟩=>⟨σo,g2,g3.trans g1,Ak _ _ _ _ g1 g4⟩) (fun c _ _ σ g1 ⟨g0,σo,g2,g3,g4⟩=>⟨g0,σo,g2,g3.trans g1,HQ _ _ _ g1 g4⟩)
  ⟨Cr,rfl,aq,by rw [EC];exact Ak _ _ _ _ aq zK⟩ ?_ ?_ ?_
 ·rintro l2 k hk H2 vZ tj w aW ⟨σo,rfl,eU,RU⟩ hs ⟨rr,E9⟩;obtain ⟨x,hx⟩:=nth (l:=s.cJ) (by simpa using hk);obtain ⟨c1,c2,c3,c4,c5,c6⟩:=bq.cJ.2 x (List.mem_of_getElem? hx);have MU:(s.cJ.map fun x=>[Value.agg x.v.toArray])[k]=[.agg x.v.toArray]:=by rw [List.getElem_map];rw [List.getElem?_eq_some_iff] at hx;obtain ⟨h1,h2⟩:=hx;rw [h2]
  rw [MU];have LS:k<ts.length:=by rw [←hlen];simpa using hk
  have sD:x.l=(k:Int):=qy hx;obtain ⟨r1,r2,r3⟩:=Ej (ts:=ts) hx LS;refine .region (.o (.alloc hs fj rfl fun b3 w hs=>?_));refine .o (.aS (vs:=x.v) hs rfl rfl aM fun w hs=>?_);refine .nil (nT ⟨H2,.blk b3 x.v:: .blk b2 [.func (.yield l) #[] #[]]::σo,HLe.refl _,hs,?_⟩);rintro w tj - hs;refine .block (.seq (.af (.y hs (zld isAgg331) (.q hs (gw (vs:=x.v) rfl mD aM) ?_))));have xH:=hy (BI s.cJ ts k) (by simpa using (List.getElem?_eq_some_iff.1 r1).1) H2 σo (.blk b3 x.v:: .blk b2 [.func (.yield l) #[] #[]]::tj) w (hle.trans eU) RU (St.deep (σ1:=σo) (St.deep (σ1:= .blk b3 x.v::σo) (hs.perm (.swap _ _ _))));rw [EN r1] at xH;refine .o (.yield (vs:=[.agg x.v.toArray]) rfl rfl xH ?_);rintro v12 w ⟨H3,σ3,bO,hs,g3⟩;obtain ⟨bb,rfl,gT,gF⟩:=oA g3;replace hs:St H3 w (.blk b3 x.v:: .blk b2 [.func (.yield l) #[] #[]]::(σ3++tj)):=(St.shallow (σ1:= .blk b3 x.v::σ3) (St.shallow (σ1:=σ3) hs)).perm (.swap _ _ _);refine .zn iW (.cond rfl (fun iX=>?_) (fun iX=>?_))
  ·exact .ret (rT (rB (⟨H3,.blk b2 [.func (.yield l) #[] #[]]::σ3,bO,hs.tail,rfl,σ3,rfl,eU.trans bO,gF (by simpa using iX)⟩)))
  ·refine .skip (nT (.seq (.draw mix rfl hs fun w hs=>?_)));have LZ:cellAt H3 b1 0=some (Pt bf):=cellAt.mono FG (eU.trans bO);have O2:cellAt H3 bf 2=some (.slice (some ⟨bt,0,none⟩) ts.length ts.length):=((Pd.mono (eU.trans bO)).f).at 2;have ht3:cellAt H3 bt k=some (I (gi ts k)):=((Pd.mono (eU.trans bO)).t).at k (iK LS);have FJ:=gT (by simpa using iX);refine .r (i:=0) hs rfl az .none (aQ rfl J4 LZ) ?_;refine .zw 1 rfl znc ?_;refine .z 2 rfl (zfa gD) ?_;refine .y 3 rfl hs an ?_;refine .z 4 rfl (zfa df) ?_;refine .y 5 rfl hs ai ?_;refine .zw 6 rfl (kA (k:=k) rfl rfl ae ak sD LS) (.r (i:=7) hs rfl az .none (aQ rfl ai ht3) ?_);refine .zw 8 rfl uS ?_;refine .z 9 rfl zm ?_;refine .lI (t':=23) rfl (fun A6=>?_) (fun A6=>?_)
   ·refine .zv 10 rfl hs (rp isAgg331) (.zw 11 rfl (zfa cI) ?_);refine .y 12 rfl hs ai ?_;refine .z 13 rfl (zfa cj) ?_;refine .y 14 rfl hs ai ?_;refine .z 15 rfl (zfa eu) ?_;refine .y 16 rfl hs ai ?_;refine .z 17 rfl I1 ?_;refine .z 18 rfl (zfa df) ?_;refine .y 19 rfl hs ai ?_;refine .z 20 rfl (zbd [_,_,_,_] ou) ?_;refine .E 21 hs ?_;obtain ⟨r4,r5⟩:=r2 A6;have xH:=hy (BI s.cJ ts k+1) (by simpa using (List.getElem?_eq_some_iff.1 r4).1) H3 σ3 (.blk b3 x.v:: .blk b2 [.func (.yield l) #[] #[]]::tj) w (hle.trans (eU.trans bO)) FJ (St.deep (σ1:=σ3) (St.deep (σ1:= .blk b3 x.v::σ3) (hs.perm (.swap _ _ _))));rw [EN r4] at xH;refine .yield (vs:=[.agg x.back.v.toArray]) rfl rfl xH ?_;rintro v35 w ⟨H4,σ4,fk,hs,g4⟩;obtain ⟨bb4,rfl,gT4,gF4⟩:=oA g4;replace hs:St H4 w (.blk b3 x.v:: .blk b2 [.func (.yield l) #[] #[]]::(σ4++tj)):=(St.shallow (σ1:= .blk b3 x.v::σ4) (St.shallow (σ1:=σ4) hs)).perm (.swap _ _ _);refine .go (.zw 22 rfl iW ?_);refine .z 23 rfl zpT ?_;refine .D hs ?_;refine (.cond rfl (fun rC=>?_) (fun rC=>?_))
    ·exact .ret (rB (⟨H4,.blk b2 [.func (.yield l) #[] #[]]::σ4,bO.trans fk,hs.tail,rfl,σ4,rfl,eU.trans (bO.trans fk),gF4 (by simpa using rC)⟩))
    ·exact .skip (nB ⟨H4,.blk b2 [.func (.yield l) #[] #[]]::σ4,bO.trans fk,hs.tail,σ4,rfl,eU.trans (bO.trans fk),by rw [r5];exact gT4 (by simpa using rC)⟩)
   ·refine .F 10 rfl ?_;refine .F 11 rfl (.F 12 rfl (.F 13 rfl (.F 14 rfl (.F 15 rfl (.F 16 rfl (.F 17 rfl (.F 18 rfl (.F 19 rfl (.F 20 rfl (.F 21 rfl (.F 22 rfl (.zw 23 rfl zpF ?_))))))))))));refine .D hs ?_;exact (.cF (.skip (nB ⟨H3,.blk b2 [.func (.yield l) #[] #[]]::σ3,bO,hs.tail,σ3,rfl,eU.trans bO,by rw [r3 A6];exact FJ⟩)))
 ·rintro D H2 vZ w aW ⟨σo,rfl,eU,RU⟩ hs;exact nB (Fin.Pf [D] [] hs.Bx fun w hs=>⟨_,results0 results271,H2,σo,eU,hs,.inl (by simpa [Hj hlen] using RU)⟩)
 ·rintro D c H2 vZ w aW ⟨rfl,σo,rfl,eU,hx⟩ hs;exact .ret (rB (Fin.kY [D] [] hs.Bx fun w hs=>⟨_,results0 results271,H2,σo,eU,hs,.inr hx⟩))
theorem nS{w:World}{s:dd}{ts:List Int}(hs:St H w σ)(bq:s.Ok)(hF:vT H bf s ts lf vl bt bl cl sp)(fu:ts.length=s.cR.length):
  TN 236 [Pt bf] w fun v w'=>∃H1 b,HLe H H1∧v= .func (.func 271) #[] #[Pt b]∧ItA Tryz.prog 271 [Pt b] H1 (dD s.cJ ts)∧St H1 w' σ:=by
 refine Cl.o func236 ntmps236 ag1 ?_;refine .af (.bx hs fun b1 w hs=>?_);refine .zn zg (.af (.q hs (dt (f:=[]) (c:=[_]) rfl rfl) (.zn zg (.ret (Fin.bw results236 rfl ?_)))));obtain ⟨H1,g1,g2,hs⟩:=hs.bK .here;exact ⟨H1,b1,g1,rfl,mA bq g2 (hF.mono g1) fu,hs⟩
theorem pc{w:World}{to:Nat}{s:dd}{ts:List Int}(hs:St H w σ)(bq:s.Ok)(hF:vT H bf s ts lf vl bt bl cl sp)(fu:ts.length=s.cR.length)(vI:lf.length=s.n)
  (hD:∃p,gP (dD s.cJ ts) p) (qG:to<s.n) (Fb:0<gi lf to):
  TN 211 [Pt bf,I to] w fun v w'=>∃H1 p en,HLe H H1∧bG 4 v (iU p) en∧St H1 w' (en::σ)∧Sl s.n s.cJ ts lf p to:=by
 obtain ⟨N,hN⟩:=Int.eq_ofNat_of_zero_le bq.m0;have RO:=bq.m1;have hn:s.n=N+1:=by simp [dd.n,hN]
 have p6:=bq.cJ;have hlen:s.cJ.length=ts.length:=by simp [dd.cJ,dY,fu]
 rw [hn] at p6 vI qG ⊢;obtain ⟨D,hg⟩:=BC aj aj p6 hlen hD;have hf0:cellAt H bf 0=some (I (N:Int)):=by have:=hF.f.at 0 (v:=I s.many);rwa [hN] at this
 have O2:cellAt H bf 3=some (.slice (some ⟨bl,0,none⟩) lf.length cl):=hF.f.at 3;refine Cl.o func211 ntmps211 ag2 ?_;refine .af (.bx hs fun b2 w hs=>?_);refine .zn zg (.af (.o (.buildSlice (cells:=[_]) hs bL rfl rfl fun l8 w hs=>?_)));refine .y hs (zld J4) (.z znc (.z (zfa fi) (.z (zfa bH) (.y hs (zld ai) (.z cP (.o (.call call243 rfl (qV (z:=far) (c:=N+1) hs .here aj aj) ?_)))))));rintro _ w ⟨bc,rfl,hs⟩;refine .o (.alloc hs gp rfl fun b5 w hs=>?_);refine .o (.store hs rfl rfl aL fun w hs=>?_);refine .nil (.af (.y hs (zld J4) (.z znc (.z (zfa fi) (.z (zfa bH) (.y hs (zld ai) (.z cP (.o (.Hv (N+1) hs rfl rfl au Sx rfl aM fj aj fun wN w hs=>?_)))))))));refine .o (.alloc hs zeroValue296 rfl fun b6 w hs=>?_);refine .o (.store hs rfl rfl OB fun w hs=>?_);refine .nil (.seq (.af (.y hs (zld J4) (.z znc (.z (zfa dh) (.y hs (zld an) (.z (cH ae) (.zn zm (.for (N:=lf.length) (J:=fun k fr w=>fr=[(31,.slice (some ⟨bl,0,none⟩) lf.length cl),(5,Pt b5),(6,Pt b6),(2,Pt b2),(1,I to)]∧∃st,uL (N+1) lf k st∧St H w (.blk b6 [.slice (some ⟨wN,0,none⟩) (N+1) (N+1)]:: .blk wN (iU st.by_):: .blk b5 [.slice (some ⟨bc,0,none⟩) (N+1) (N+1)]:: .blk bc (Is st.cost):: .blk b2 [Pt bf]::σ)) aj ?_ ?_ ?_)))))))))
 ·exact .mk ⟨rfl,_,.start _ _,hs.sb⟩
 ·rintro k fr w hk ⟨rfl,st,hI,hs⟩;have O4:cellAt H bl k=some (I (gi lf k)):=hF.d.at k (Gi (bJ hk) sp);have LR:=hI.lc;have DN:=hI.lb;have S2:k<st.by_.length:=by omega
  refine .block (.af (.z zm ?_));first|(refine .ixv hs ae ak ?_;intro R8 o36 xK)|refine .z (zix ae ak) ?_
  refine .q hs (aQ rfl ai O4) (.z zg (.zn zg (.af (.z zm (.zn iG (.cu rfl (fun mY=>?_) (fun mY=>?_)))))))
  ·refine .af (.y hs (zld an) (.z zm ?_));first|(refine .ixv hs ae ak ?_;intro Ph o42 KZ)|refine .z (zix ae ak) ?_
   refine .o (.store hs rfl rfl ak fun w hs=>?_);refine .nil (.region (.y hs (zld jV) (.z zm ?_)));first|(refine .ixw hs au aM ?_;intro TM o45 ND)|refine .z (tk au aM) ?_
   refine .z (zfa df) (.o (.store hs rfl rfl ak ?_ cZ (Cf S2 aj) (Ac S2 _)));intro w hs;exact .nil (nB (nT (.mk ⟨rfl,_,hI.take aj mY,hs⟩)))
  ·exact .skip (nB (nT (.mk ⟨rfl,_,hI.skip mY,hs⟩)))
 ·rintro fr w ⟨rfl,st0,zK,hs⟩;rw [vI] at zK;have hW0:=zK.inv hg;refine nT (.seq (.af (.o (.alloc hs IX rfl fun b9 w hs=>?_))));refine .o (.store hs rfl rfl eA fun w hs=>?_);refine .nil (.block ?_);refine .loop (fun p:Nat×List Nat×bC×BS×Bool=>⟨141,marks p.2.1,[(9,.pointer (some ⟨p.1,0,none⟩)),(5,Pt b5),(6,Pt b6),(2,Pt b2),(1,I to)]⟩)
   (fun p w=>HLe H p.2.2.1∧(∃j,tg (N+1) (dD s.cJ ts) (fun v=>gi lf v<0) D j p.2.2.2.2 p.2.2.2.1∧(p.2.2.2.2=false→j=(dD s.cJ ts).length))∧
    St p.2.2.1 w (.blk p.1 [.bool p.2.2.2.2]:: .blk b6 [.slice (some ⟨wN,0,none⟩) (N+1) (N+1)]:: .blk wN (iU p.2.2.2.1.by_):: .blk b5 [.slice (some ⟨bc,0,none⟩) (N+1) (N+1)]:: .blk bc (Is p.2.2.2.1.cost):: .blk b2 [Pt bf]::(mes p.2.1++σ)))
   (fun p=>2*WM (N+1) D p.2.2.2.1+(if p.2.2.2.2=true then 1 else 0)) (b9,[],H,st0,true) bk ⟨HLe.refl _,⟨0,hW0,fun h=>by cases h⟩,hs⟩ ?_
  rintro ⟨b9,Ds,H1,st,ag⟩ w ⟨aq,⟨j,hW,hj⟩,hs⟩;dsimp only at aq hW hj hs ⊢;have LR:=hW.lc;have DN:=hW.lb;refine .seq (.af (.y hs (zld ml) (.nil (.cond rfl (fun xJ=>?_) (fun xJ=>?_)))))
  ·refine .skip (nT (.seq (.block (.af ?_))));subst xJ;refine .o (.store hs rfl rfl eA fun w hs=>?_);refine .nil (.af (.y hs (zld J4) (.o (.call call236 rfl (nS hs bq (hF.mono aq) fu) ?_))));rintro _ w ⟨H2,R5,aW,rfl,oh,hs⟩;refine .nil (.block ?_);refine .rangeFunc (gf:=271) (cap:=[Pt R5]) (xs:=(dD s.cJ ts).map fun x:Arc=>[Value.agg x.v.toArray])
    (σb:=[.blk b9 [.bool false],.blk b6 [.slice (some ⟨wN,0,none⟩) (N+1) (N+1)],.blk wN (iU st.by_),.blk b5 [.slice (some ⟨bc,0,none⟩) (N+1) (N+1)],.blk bc (Is st.cost),.blk b2 [Pt bf]]) (σf:=mes Ds++σ) hs trivial rfl oh call271 bj rfl
    (I:=fun k H' σb=>HLe H2 H'∧∃Ah ag,σb=[.blk b9 [.bool ag],.blk b6 [.slice (some ⟨wN,0,none⟩) (N+1) (N+1)],.blk wN (iU Ah.by_),.blk b5 [.slice (some ⟨bc,0,none⟩) (N+1) (N+1)],.blk bc (Is Ah.cost),.blk b2 [Pt bf]]∧
     tg (N+1) (dD s.cJ ts) (fun v=>gi lf v<0) D k ag Ah∧WM (N+1) D Ah≤WM (N+1) D st∧(ag=true→WM (N+1) D Ah<WM (N+1) D st)) (Ix:=fun _ _ _=>False)
    (by rintro k _ _ σ g1 ⟨g2,g3⟩;exact ⟨g2.trans g1,g3⟩) (fun _ _ _ _ _ h=>h) ⟨HLe.refl _,st,false,rfl,hW.next,Nat.le_refl _,fun h=>by cases h⟩ ?_ ?_ (fun D c H' σb w _ h _=>h.elim)
   ·rintro l k hk H3 Gx σf3 w bO ⟨zB,Ah,ag,rfl,A7,Ju,Jt⟩ hs ⟨rr,E9⟩;obtain ⟨x,hx⟩:=nth (l:=dD s.cJ ts) (by simpa using hk);obtain ⟨c1,c2,c3,c4,c5,c6⟩:=hg.ok x (List.mem_of_getElem? hx);rw [EN hx];have hlc':=A7.lc;have hlb':=A7.lb;have lo1:=A7.lo x.f c1;have lo2:=hg.d1 x.f c1;have SL:cellAt H3 bl x.t=some (I (gi lf x.t)):=((hF.mono (aq.trans (aW.trans bO))).d).at x.t (Gi (bJ aj) sp);have hf33:cellAt H3 bf 3=some (.slice (some ⟨bl,0,none⟩) lf.length cl):=cellAt.mono O2 (aq.trans (aW.trans bO));refine .region (.o (.alloc hs fj rfl fun ib w hs=>?_));refine .o (.aS (vs:=x.v) hs rfl rfl aM fun w hs=>?_);refine .nil (nT ⟨H3,[.blk ib x.v,.blk b9 [.bool ag],.blk b6 [.slice (some ⟨wN,0,none⟩) (N+1) (N+1)],.blk wN (iU Ah.by_),.blk b5 [.slice (some ⟨bc,0,none⟩) (N+1) (N+1)],.blk bc (Is Ah.cost),.blk b2 [Pt bf]],HLe.refl _,hs,?_⟩);rintro w sV - hs;refine .block (.seq (.draw mix rfl hs fun w hs=>?_));refine .y 0 rfl hs an ?_;refine .z 1 rfl (zfa cj) ?_;refine .y 2 rfl hs ai ?_;first|(refine .ixv 3 rfl hs ae ak ?_;intro b55 o55 NC)|refine .z 3 rfl (zix ae ak) ?_
    refine .y 4 rfl hs ai ?_;refine .z 5 rfl iG ?_;refine .z 6 rfl zm ?_;refine .lI (t':=58) rfl (fun Dd=>?_) (fun Dd=>?_)
    ·refine .y 7 rfl hs an ?_;refine .z 8 rfl (zfa cj) ?_;refine .y 9 rfl hs ai ?_;first|(refine .ixv 10 rfl hs ae ak ?_;intro b62 o62 hc62)|refine .z 10 rfl (zix ae ak) ?_
     refine .y 11 rfl hs ai ?_;refine .z 12 rfl (zfa eu) ?_;refine .y 13 rfl hs ai ?_;refine .z 14 rfl cP ?_;refine .y 15 rfl hs an ?_;refine .z 16 rfl (zfa cI) ?_;refine .y 17 rfl hs ai ?_;first|(refine .ixv 18 rfl hs ae ak ?_;intro b70 o70 hc70)|refine .z 18 rfl (zix ae ak) ?_
     refine .y 19 rfl hs ai ?_;refine .z 20 rfl iG ?_;refine .z 21 rfl zpT ?_;refine .z 22 rfl zm ?_;refine .lI (t':=74) rfl (fun Dc=>?_) (fun Dc=>?_)
     ·refine .y 23 rfl hs J4 ?_;refine .z 24 rfl znc ?_;refine .z 25 rfl (zfa dh) ?_;refine .y 26 rfl hs an ?_;refine .z 27 rfl (zfa cI) ?_;refine .y 28 rfl hs ai ?_;first|(refine .ixv 29 rfl hs ae ak ?_;intro b81 o81 hc81)|refine .z 29 rfl (zix ae ak) ?_
      refine .y 30 rfl hs ai ?_;refine .z 31 rfl Bq ?_;refine .z 32 rfl zm ?_;refine .lI (t':=84) rfl (fun Rb=>?_) (fun Rb=>?_)
      ·refine .F 33 rfl (.F 34 rfl (.F 35 rfl (.F 36 rfl (.F 37 rfl (.F 38 rfl (.F 39 rfl (.F 40 rfl (.F 41 rfl (.zw 42 rfl zpT ?_)))))))));refine .z 43 rfl zpT ?_;refine .D hs ?_;refine (.cT (.draw mix rfl hs fun w hs=>?_));refine .y 0 rfl hs an ?_;refine .z 1 rfl (zfa cI) ?_;refine .y 2 rfl hs ai ?_;refine .y 3 rfl hs jV ?_;refine .z 4 rfl (zfa cI) ?_;refine .y 5 rfl hs ai ?_;refine .y 6 rfl hs an ?_;refine .z 7 rfl (zfa cj) ?_;refine .y 8 rfl hs ai ?_;first|(refine .ixv 9 rfl hs ae ak ?_;intro Sj o105 NU)|refine .z 9 rfl (zix ae ak) ?_
       refine .y 10 rfl hs ai ?_;refine .z 11 rfl (zfa eu) ?_;refine .y 12 rfl hs ai ?_;refine .z 13 rfl cP ?_;refine .vD (i:=14) (vs:=x.v) hs rfl az .none rfl mD aM ?_;first|(refine .ixv 15 rfl hs ae ak ?_;intro Sh o111 NT)|refine .z 15 rfl (zix ae ak) ?_
       refine .E 16 hs ?_;refine .store hs rfl rfl ak ?_;intro w hs;refine .go ?_;first|(refine .ixw 17 rfl hs au aM ?_;intro Sg o112 NS)|refine .z 17 rfl (tk au aM) ?_
       refine .E 18 hs ?_;refine .aS (vs:=x.v) hs rfl rfl aM ?_;intro w hs;refine .go (.E 19 hs ?_);refine .store hs rfl rfl eA ?_;intro w hs;refine .go (.D hs (nB ?_));have:=A7.less hg hx Dd Dc;exact ⟨H3,_,HLe.refl _,hs.tail,zB,Ah.rlx x,true,rfl,A7.yW hg hx Dd Dc,aj,fun _=>by omega⟩
      ·refine .y 33 rfl hs an ?_;refine .z 34 rfl (zfa cj) ?_;refine .y 35 rfl hs ai ?_;first|(refine .ixv 36 rfl hs ae ak ?_;intro b88 o88 hc88)|refine .z 36 rfl (zix ae ak) ?_
       refine .y 37 rfl hs ai ?_;refine .z 38 rfl (zfa eu) ?_;refine .y 39 rfl hs ai ?_;refine .z 40 rfl cP ?_;refine .z 41 rfl iG ?_;refine .z 42 rfl zpF ?_;refine .z 43 rfl zpT ?_;refine .D hs ?_;refine (.cu rfl (fun QZ=>?_) (fun QZ=>?_))
       ·refine .draw mix rfl hs fun w hs=>?_
        refine .y 0 rfl hs an ?_;refine .z 1 rfl (zfa cI) ?_;refine .y 2 rfl hs ai ?_;refine .y 3 rfl hs jV ?_;refine .z 4 rfl (zfa cI) ?_;refine .y 5 rfl hs ai ?_;refine .y 6 rfl hs an ?_;refine .z 7 rfl (zfa cj) ?_;refine .y 8 rfl hs ai ?_;first|(refine .ixv 9 rfl hs ae ak ?_;intro Sj o105 NU)|refine .z 9 rfl (zix ae ak) ?_
        refine .y 10 rfl hs ai ?_;refine .z 11 rfl (zfa eu) ?_;refine .y 12 rfl hs ai ?_;refine .z 13 rfl cP ?_;refine .vD (i:=14) (vs:=x.v) hs rfl az .none rfl mD aM ?_;first|(refine .ixv 15 rfl hs ae ak ?_;intro Sh o111 NT)|refine .z 15 rfl (zix ae ak) ?_
        refine .E 16 hs ?_;refine .store hs rfl rfl ak ?_;intro w hs;refine .go ?_;first|(refine .ixw 17 rfl hs au aM ?_;intro Sg o112 NS)|refine .z 17 rfl (tk au aM) ?_
        refine .E 18 hs ?_;refine .aS (vs:=x.v) hs rfl rfl aM ?_;intro w hs;refine .go (.E 19 hs ?_);refine .store hs rfl rfl eA ?_;intro w hs;refine .go (.D hs (nB ?_));have:=A7.less hg hx Dd Dc;exact ⟨H3,_,HLe.refl _,hs.tail,zB,Ah.rlx x,true,rfl,A7.yW hg hx Dd Dc,aj,fun _=>by omega⟩
       ·refine .skip (nB ?_);have:=A7.src x.t c2 aj;omega
     ·refine .F 23 rfl (.F 24 rfl (.F 25 rfl (.F 26 rfl (.F 27 rfl (.F 28 rfl (.F 29 rfl (.F 30 rfl ?_)))))));refine .F 31 rfl (.F 32 rfl (.F 33 rfl (.F 34 rfl (.F 35 rfl (.F 36 rfl (.F 37 rfl (.F 38 rfl (.F 39 rfl (.F 40 rfl (.F 41 rfl (.F 42 rfl (.zw 43 rfl zpF ?_))))))))))));refine .D hs ?_;exact (.cF (.skip (nB ⟨H3,_,HLe.refl _,hs.tail,zB,Ah,ag,rfl,A7.skip hx (fun h=>Dc h.2),Ju,Jt⟩)))
    ·refine .F 7 rfl (.F 8 rfl ?_);refine .F 9 rfl (.F 10 rfl (.F 11 rfl (.F 12 rfl (.F 13 rfl (.F 14 rfl (.F 15 rfl (.F 16 rfl (.F 17 rfl (.F 18 rfl (.F 19 rfl (.F 20 rfl (.zw 21 rfl zpF ?_))))))))))));refine .z 22 rfl zm ?_;refine .F 23 rfl (.F 24 rfl (.F 25 rfl (.F 26 rfl (.F 27 rfl (.F 28 rfl (.F 29 rfl (.F 30 rfl ?_)))))));refine .F 31 rfl (.F 32 rfl (.F 33 rfl (.F 34 rfl (.F 35 rfl (.F 36 rfl (.F 37 rfl (.F 38 rfl (.F 39 rfl (.F 40 rfl (.F 41 rfl (.F 42 rfl (.zw 43 rfl zpF ?_))))))))))));refine .D hs ?_;exact (.cF (.skip (nB ⟨H3,_,HLe.refl _,hs.tail,zB,Ah,ag,rfl,A7.skip hx (fun h=>Dd h.1),Ju,Jt⟩)))
   ·rintro D3 H3 Gx w bO ⟨zB,Ah,ag,rfl,A7,Ju,Jt⟩ hs;replace hs:St H3 w (.blk b9 [.bool ag]:: .blk b6 [.slice (some ⟨wN,0,none⟩) (N+1) (N+1)]:: .blk wN (iU Ah.by_):: .blk b5 [.slice (some ⟨bc,0,none⟩) (N+1) (N+1)]:: .blk bc (Is Ah.cost):: .blk b2 [Pt bf]::(mes (D3::Ds)++σ)):=St.deep (σ1:=[_,_,_,_,_,_]) hs;rw [List.length_map] at A7;refine nB (nB (nT (.af (.y hs (zld ml) (.nil (.region (.o (.alloc hs IX rfl fun b9 w hs=>?_))))))));refine .o (.store hs rfl rfl eA fun w hs=>?_);refine .nil (nT ?_);exact ⟨(b9,D3::Ds,H3,Ah,ag),bk,⟨aq.trans (aW.trans bO),⟨_,A7,fun _=>rfl⟩,hs.sb⟩,by
      dsimp only
      cases ag with
      |false=>simp;omega
      |true=>have:=Jt rfl;simp;omega⟩
  ·refine .exit (xT (xT (xB (nT (.seq (.af ?_))))));subst xJ;obtain rfl:=hj rfl;refine .y hs (zld an) (.z zm ?_);first|(refine .ixv hs ae ak ?_;intro b116 o116 Tg)|refine .z (zix ae ak) ?_
   refine .y hs (zld ai) (.zn gQ (.cu rfl (fun JD=>?_) (fun JD=>?_)))
   ·refine .af (.zn zg (.ret (rT ((Fin.kY Ds [_,_,_,_,_,_] hs fun w hs=>⟨_,results1 results211 rfl,H1,[],.nul,aq,.nil 4 none,(hs.sb).nul,hW.none hg JD⟩)))))
   ·refine .skip (nT (.af (.zn zg (.seq (.af (.z zm (.zn zg (.block ?_))))))));have Fa:gi st.cost to<far:=by have:=hW.top to qG;have e:far=1152921504606846976:=rfl;omega
    obtain ⟨kk,cc,u,Ih,rY,HS,Fi,uj,P2⟩:=hW.back hg qG Fa Fb;refine .loop (fun p:Nat×Nat×Value×Ent=>⟨141,marks Ds,[(11,p.2.2.1),(12,I p.2.1),(6,Pt b6)]⟩)
     (fun p w=>p.1≤kk∧(p.2.1<N+1∧gi st.cost p.2.1<far)∧bG 4 p.2.2.1 (iU (mq st.by_ to p.1)) p.2.2.2∧(∃d,fH st.by_ to p.1 d p.2.1)∧(∃d,fH st.by_ p.2.1 (kk - p.1) d u)∧
      St H1 w (p.2.2.2:: .blk b9 [.bool false]:: .blk b6 [.slice (some ⟨wN,0,none⟩) (N+1) (N+1)]:: .blk wN (iU st.by_):: .blk b5 [.slice (some ⟨bc,0,none⟩) (N+1) (N+1)]:: .blk bc (Is st.cost):: .blk b2 [Pt bf]::(mes Ds++σ)))
     (fun p=>kk - p.1) (0,to,.slice none 0 0,.nul) bk ⟨Nat.zero_le _,⟨qG,Fa⟩,.nil 4 none,⟨0,.nil⟩,⟨cc,Ih⟩,hs.nul⟩ ?_
    rintro ⟨i,v,v11,en⟩ w ⟨hik,⟨SN,P6⟩,hO,⟨d1,xP⟩,⟨d2,uU⟩,hs⟩;dsimp only at hik SN P6 hO xP uU hs ⊢;have P5:v<st.by_.length:=by omega
    refine .seq (.af (.y hs (zld jV) (.z zm ?_)));first|(refine .ixw hs au aM ?_;intro b122 o122 Td)|refine .z (tk au aM) ?_
    refine .z (zfa df) (.q hs (eN rfl ai (hv:=(qB P5 (j:=3) aj).trans rfl)) (.zn Bq (.cu rfl (fun Fx=>?_) (fun Fx=>?_))))
    ·refine .skip (nT (.seq (.block (.region (.z zm (.y hs (zld jV) (.z zm ?_)))))));first|(refine .ixw hs au aM ?_;intro Se o134 BX)|refine .z (tk au aM) ?_
     refine .q hs (gw (vs:=(ga st.by_ v).v) rfl mD aM (hv:=Cp P5)) (.o (.buildSlice (cells:=(ga st.by_ v).v) hs ph rfl rfl fun Sd w hs=>?_));refine .o (.append (ys:=(ga st.by_ v).v) hs jY rfl rfl hO (.own .here rfl rfl) (by simp [Arc.v,Value.oneCell']) (fun l h=>by rw [dc,jq] at h;omega) ?_);intro v137 en137 w eH hs;refine .zn zg (nB (nT (.region (.y hs (zld jV) (.z zm ?_)))));first|(refine .ixw hs au aM ?_;intro Sf o128 NR)|refine .z (tk au aM) ?_
     refine .z (zfa cj) (.q hs (eN rfl ai (hv:=(qB P5 (j:=0) aj).trans rfl)) (.zn zg (nT ?_)));obtain ⟨g1,g2⟩:=uj v SN P6 Fx;obtain ⟨m,hm⟩:∃m,kk - i=m+1:=by
      refine ⟨kk - i - 1,?_⟩
      rcases Nat.lt_or_ge i kk with h|h
      ·omega
      ·obtain e:kk - i=0:=by omega
       rw [e] at uU;cases uU
       omega
     rw [hm] at uU
     obtain ⟨d3,LZ⟩:∃d,fH st.by_ (ga st.by_ v).f m d u:=by cases uU with|cons _ t=>exact ⟨_,t⟩
     rw [←Gp,←Cu xP] at eH;exact ⟨(i+1,(ga st.by_ v).f,v137,en137),bk,⟨by dsimp only;omega,⟨g1,g2⟩,eH,⟨_,xP.trans (.cons Fx .nil)⟩,⟨d3,by rw [show kk - (i+1)=m by omega];exact LZ⟩,hs.sb⟩,by dsimp only;omega⟩
    ·refine .exit (xT (xT (xB (nT (.af ?_)))));obtain rfl:i=kk:=by
      rcases Nat.lt_or_ge i kk with h|h
      ·obtain ⟨m,hm⟩:∃m,kk - i=m+1:=⟨kk - i - 1,aj⟩;rw [hm] at uU
       cases uU with
       |cons hl _=>omega
      ·omega
     refine .z zm (.o (.call call244 rfl (oI hs hO (by rw [jq];omega)) ?_));rintro v139 w ⟨iT,N7,hs⟩;refine .nil (.af (.z zm (.zn zg (.ret (Fin.kY Ds [_,_,_,_,_,_,_] hs fun w hs=>⟨_,results1 results211 rfl,H1,_,iT,aq,N7,hs.sb,P2 _ rfl⟩)))))
theorem Cn{s:dd}{x:Arc}(bq:s.Ok)(hx:DB s.cJ x):∃(i:Nat) (l:Lim),s.cR[i]? =some l∧x.l=(i:Int)∧(l.A=(x.f:Int)↔fwd s.cJ x)∧i<s.cR.length:=by
 obtain ⟨i,y,h1,h2⟩:=hx;have hl:=qy h1;have fu:i<s.cR.length:=by have:=(List.getElem?_eq_some_iff.1 h1).1;simpa [dd.cJ,dY] using this
 obtain ⟨l,HR⟩:=nth fu;have h3:=j6 HR;have JL:(mj s.cR)[i]? =some y:=h1;rw [h3] at JL;cases JL
 obtain ⟨a1,a2,_⟩:=bq.arc (List.mem_of_getElem? HR) i;refine ⟨i,l,HR,?_,?_,fu⟩
 ·rcases h2 with rfl|rfl<;>rfl
 ·have hg:ga s.cJ i=l.arc i:=by simp [ga,dd.cJ,h3]
  have sD:x.l.toNat=i:=by rcases h2 with rfl|rfl<;>rfl
  unfold fwd;rw [sD,hg,←a1];exact ⟨fun e=>by exact_mod_cast e,fun e=>by exact_mod_cast e⟩
theorem jD{w:World}{s:dd}{x:Arc}(hs:St H w σ)(bq:s.Ok)(hf:Row H bf [I s.many,vl,vt,vd])(hl:RL H vl s.cR)(hx:DB s.cJ x):
  TN 245 [Pt bf,.agg x.v.toArray] w fun v w'=>v= .bool (decide (fwd s.cJ x))∧St H w' σ:=by
 obtain ⟨i,l,BU,sD,hfw,vJ⟩:=Cn bq hx;have hf1:cellAt H bf 1=some vl:=hf.at 1;refine Cl.o func245 ntmps245 ag2 ?_;refine .af (.bx hs fun b3 w hs=>?_);refine .zn zg (.seq (.draw mix rfl hs fun w hs=>?_));refine .zw 0 rfl zm ?_;refine .z 1 rfl znc ?_;refine .z 2 rfl (zfa fi) ?_;refine .z 3 rfl (zfa bN) ?_;refine .y 4 rfl hs fJ ?_;refine .z 5 rfl (zfa df) ?_;refine .y 6 rfl hs ai ?_;refine .ixX (i:=7) hs rfl az .none hl rfl rfl a7 ck BU sD ?_;intro pn o12 kB;have hA:cellAt H pn o12=some (I l.A):=kB.get 0 rfl;refine .zw 8 rfl (zfa dw) ?_;refine .y 9 rfl hs ai ?_;refine .z 10 rfl (zfa cj) ?_;refine .y 11 rfl hs ai ?_;refine .z 12 rfl gQ ?_;refine .z 13 rfl zg ?_;refine .D hs ?_;exact .ret (Fin.bw results245 rfl ⟨by simp only [decide_eq_decide.2 hfw],hs.out⟩)
theorem nR{w:World}{u v:Nat}{s:dd}{ts:List Int}{wt:Nat→Int}{p:List Arc}(hs:St H w (.blk bt (Is ts):: .blk bl (Is lf++sp)::σ))(bq:s.Ok)
  (hf:Row H bf [I s.many,vl,.slice (some ⟨bt,0,none⟩) ts.length ts.length,.slice (some ⟨bl,0,none⟩) lf.length cl]) (hl:RL H vl s.cR) (hp:RS H 4 vp (p.map Arc.v)) (hI:yt s.n s.cJ wt ts lf) (hw:Lw s.cJ ts lf s.n p u v) (KK:p≠[]) (Gr:p.length<s.n):
  TN 212 [Pt bf,vp] w fun _ w'=>St H w' (.blk bt (Is (ft s.cJ (rW s.cJ ts lf p u v) ts p)):: .blk bl (Is (AO lf (rW s.cJ ts lf p u v) u v)++sp)::σ):=by
 have RO:=bq.m1;have HO:s.n≤65:=by simp only [dd.n];have:=bq.m0;omega
 have C2:Co s.cJ:=fun i x hx=>⟨qy hx,(bq.cJ.2 x (List.mem_of_getElem? hx)).2.2.2.2.2⟩
 have fu:=hI.lt;have vI:=hI.ll;obtain ⟨m0,m1,m2,m3⟩:=xr fu.symm C2 hw;have hsu:=hI.sg u hw.un;have hsv:=hI.sg v hw.vn;have Jj:u<lf.length:=by rw [vI];exact hw.un
 have OP:v<lf.length:=by rw [vI];exact hw.vn
 obtain ⟨a,cap,SM⟩:=hp.shape;rw [List.length_map] at SM;subst SM;have hp0:0<p.length:=List.length_pos_iff.2 KK;obtain ⟨x0,BP⟩:=nth hp0;obtain ⟨x1,AT⟩:=nth (l:=p) (k:=p.length - 1) aj;have hh:=hw.ch.head BP;have Np:=hw.ch.last AT;have hf2:cellAt H bf 2=some (.slice (some ⟨bt,0,none⟩) ts.length ts.length):=hf.at 2;have O2:cellAt H bf 3=some (.slice (some ⟨bl,0,none⟩) lf.length cl):=hf.at 3;have Nr:∀x∈p,DB s.cJ x∧x.l.toNat<ts.length∧x.l=(x.l.toNat:Int):=fun x hx=>by
  obtain ⟨g1,g2,_⟩:=lP fu.symm C2 (hw.mem x hx);obtain ⟨i,l,_,g3,_⟩:=Cn bq g1;exact ⟨g1,g2,by rw [g3];simp⟩
 simp only [FF] at hsu hsv;have Ji:v≠u:=fun e=>by have:=hw.lu;have:=hw.lv;rw [e] at*;omega
 have htt:∀i<ts.length,0≤gi ts i∧gi ts i≤3600000000000:=fun i hi=>by
  have h1:=hI.nn i aj;have h2:=hI.tb i aj;have h3:0≤rem s.n lf:=cQ fun v _=>by omega
  simp only [FF] at h2;omega
 have hM:rW s.cJ ts lf p u v=least s.cJ ts (min (-gi lf u) (gi lf v)) p:=rfl;generalize rW s.cJ ts lf p u v=M at*;have QO:gi (lf.set u (gi lf u+M)) v=gi lf v:=by rw [gZ Jj,if_neg Ji]
 refine Cl.o func212 ntmps212 ag2 ?_;refine .seq (.draw mix rfl hs fun w hs=>?_);refine .zw 0 rfl zm (.ixX (i:=1) hs rfl az .none hp rfl rfl au aM BP rfl ?_);intro pn o12 kB;have h14:cellAt H pn (o12+0)=some (I u):=by rw [←hh];exact kB.get 0 rfl
 refine .zw 2 rfl (zfa cj) ?_;refine .y 3 rfl hs ai ?_;refine .z 4 rfl zm ?_;refine .z 5 rfl zm ?_;refine .z 6 rfl (cH au) ?_;refine .z 7 rfl jc ?_;refine .ixX (i:=8) hs rfl az .none hp rfl rfl au aM AT aj ?_;intro Ch o19 nN;have h21:cellAt H Ch (o19+1)=some (I v):=by rw [←Np];exact nN.get 1 rfl
 refine .zw 9 rfl (zfa cI) ?_;refine .y 10 rfl hs ai ?_;refine .z 11 rfl zg ?_;refine .z 12 rfl zg ?_;refine .D hs ?_;refine .seq (.draw mix rfl hs fun w hs=>?_);refine .zw 0 rfl zm ?_;refine .z 1 rfl znc ?_;refine .z 2 rfl (zfa dh) ?_;refine .y 3 rfl hs an ?_;refine .z 4 rfl zm ?_;first|(refine .ixv 5 rfl hs ae ak ?_;intro wN o27 Db)|refine .z 5 rfl (zix ae ak) ?_
 refine .load (i:=6) hs rfl az .none rfl ai ?_ (hv:=fG Jj sp);refine .zw 7 rfl I1 ?_;refine .z 8 rfl zm ?_;refine .z 9 rfl znc ?_;refine .z 10 rfl (zfa dh) ?_;refine .y 11 rfl hs an ?_;refine .z 12 rfl zm ?_;first|(refine .ixv 13 rfl hs ae ak ?_;intro Po o35 rD)|refine .z 13 rfl (zix ae ak) ?_
 refine .load (i:=14) hs rfl az .none rfl ai ?_ (hv:=fG OP sp);refine .zw 15 rfl Gy ?_;refine .z 16 rfl zg ?_;refine .D hs ?_;refine .seq (.af (.z zm (.z (cH au) (.zn zm (.for (N:=p.length) (J:=fun k fr w=>fr=[(38,.slice a p.length cap),(6,I (least s.cJ ts (min (-gi lf u) (gi lf v)) (p.take k))),(0,Pt bf),(1,.slice a p.length cap),(4,I u),(5,I v)]∧St H w (.blk bt (Is ts):: .blk bl (Is lf++sp)::σ)) aj ?_ ?_ ?_)))))
 ·exact .mk ⟨rfl,hs⟩
 ·rintro k fr w hk ⟨rfl,hs⟩;obtain ⟨x,hx⟩:=nth hk;obtain ⟨g1,g2,g3⟩:=Nr x (List.mem_of_getElem? hx);refine .block (.af (.ixX hs hp rfl rfl au aM hx rfl ?_));intro Ph o42 KZ;refine .q hs (bE (vs:=x.v) rfl mD aM KZ) (.o (.alloc hs fj rfl fun b8 w hs=>?_));refine .o (.aS (vs:=x.v) hs rfl rfl aM fun w hs=>?_);refine .nil (.af (.z zm (.q hs (gw (vs:=x.v) rfl mD aM) (.o (.call call245 rfl (jD hs bq hf hl g1) ?_)))));rintro _ w ⟨rfl,hs⟩;refine .zn iW (.cond rfl (fun p9=>?_) (fun p9=>?_))
  ·refine .draw mix rfl hs fun w hs=>?_
   refine .zw 0 rfl zm ?_;refine .z 1 rfl zm ?_;refine .z 2 rfl znc ?_;refine .z 3 rfl (zfa gD) ?_;refine .y 4 rfl hs an ?_;refine .z 5 rfl (zfa df) ?_;refine .y 6 rfl hs ai ?_;refine .zw 7 rfl (kA (k:=x.l.toNat) rfl rfl ae ak g3 g2) (.y 8 rfl hs ai ?_);refine .z 9 rfl Gy ?_;refine .z 10 rfl zg ?_;refine .D hs ?_;refine nB (nT ?_);have e:min (least s.cJ ts (min (-gi lf u) (gi lf v)) (p.take k)) (gi ts x.l.toNat)=least s.cJ ts (min (-gi lf u) (gi lf v)) (p.take (k+1)):=by rw [ep hx,wC,if_neg (by simpa using p9)]
   exact .mk ⟨rfl,hs.tail⟩ (hs:= .cons rfl (.cons rfl (.cons rfl (.dI rfl e (.cons rfl (.cons rfl (.cons rfl (.cons rfl (.nil rfl rfl)))))))))
  ·refine .skip (nB (nT ?_));have e:least s.cJ ts (min (-gi lf u) (gi lf v)) (p.take k)=least s.cJ ts (min (-gi lf u) (gi lf v)) (p.take (k+1)):=by rw [ep hx,wC,if_pos (by simpa using p9)]
   exact .mk ⟨rfl,hs.tail⟩ (hs:= .cons rfl (.cons rfl (.cons rfl (.dI rfl e (.cons rfl (.cons rfl (.cons rfl (.cons rfl (.nil rfl rfl)))))))))
 ·rintro fr w ⟨rfl,hs⟩;have e6:least s.cJ ts (min (-gi lf u) (gi lf v)) (List.take p.length p)=M:=by rw [List.take_length];exact hM.symm
  rw [e6];refine nT (.seq (.af (.z zm (.z (cH au) (.zn zm (.for (N:=p.length) (J:=fun k fr w=>fr=[(59,.slice a p.length cap),(6,I M),(0,Pt bf),(1,.slice a p.length cap),(4,I u),(5,I v)]∧St H w (.blk bt (Is (ft s.cJ M ts (p.take k))):: .blk bl (Is lf++sp)::σ)) aj ?_ ?_ ?_))))))
  ·exact .mk ⟨rfl,hs⟩
  ·rintro k fr w hk ⟨rfl,hs⟩;obtain ⟨x,hx⟩:=nth hk;obtain ⟨g1,g2,g3⟩:=Nr x (List.mem_of_getElem? hx);have hpl2:=lN s.cJ M (p.take k) ts;have BY:=EA (es:=s.cJ) (m:=M) (ts:=ts) (p:=p.take k) aj (by simp only [FF];omega) (by rw [List.length_take];omega) (fun y hy=>(Nr y (List.mem_of_mem_take hy)).2.1) x.l.toNat;have h9:=htt _ g2;refine .block (.af (.ixX hs hp rfl rfl au aM hx rfl ?_));intro b63 o63 sF;refine .q hs (bE (vs:=x.v) rfl mD aM sF) (.o (.alloc hs fj rfl fun ib w hs=>?_));refine .o (.aS (vs:=x.v) hs rfl rfl aM fun w hs=>?_);refine .nil (.af (.z zm (.q hs (gw (vs:=x.v) rfl mD aM) (.o (.call call245 rfl (jD hs bq hf hl g1) ?_)))));rintro _ w ⟨rfl,hs⟩;refine .nil (.cond rfl (fun A0=>?_) (fun A0=>?_))
   ·refine .draw mix rfl hs fun w hs=>?_
    refine .zw 0 rfl zm ?_;refine .z 1 rfl znc ?_;refine .z 2 rfl (zfa gD) ?_;refine .y 3 rfl hs an ?_;refine .z 4 rfl (zfa df) ?_;refine .y 5 rfl hs ai ?_;refine .zw 6 rfl (kA (k:=x.l.toNat) rfl rfl ae ak g3 g2) (.y 7 rfl hs ai ?_);refine .z 8 rfl zm ?_;refine .z 9 rfl cP ?_;refine .zw 10 rfl (kA (k:=x.l.toNat) rfl rfl ae ak g3 g2) (.E 11 hs ?_);refine .store hs rfl rfl ak ?_;intro w hs;refine .go (.D hs (nB (nT ?_)));have e:ft s.cJ M ts (p.take (k+1))=(ft s.cJ M ts (p.take k)).set x.l.toNat (gi (ft s.cJ M ts (p.take k)) x.l.toNat+M):=by rw [ep hx,tN,push,if_pos (by simpa using A0)]
    exact .mk ⟨rfl,by rw [e];exact hs.tail⟩
   ·refine .draw mix rfl hs fun w hs=>?_
    refine .zw 0 rfl zm ?_;refine .z 1 rfl znc ?_;refine .z 2 rfl (zfa gD) ?_;refine .y 3 rfl hs an ?_;refine .z 4 rfl (zfa df) ?_;refine .y 5 rfl hs ai ?_;refine .zw 6 rfl (kA (k:=x.l.toNat) rfl rfl ae ak g3 g2) (.y 7 rfl hs ai ?_);refine .z 8 rfl zm ?_;refine .z 9 rfl jc ?_;refine .zw 10 rfl (kA (k:=x.l.toNat) rfl rfl ae ak g3 g2) (.E 11 hs ?_);refine .store hs rfl rfl ak ?_;intro w hs;refine .go (.D hs (nB (nT ?_)));have e:ft s.cJ M ts (p.take (k+1))=(ft s.cJ M ts (p.take k)).set x.l.toNat (gi (ft s.cJ M ts (p.take k)) x.l.toNat - M):=by rw [ep hx,tN,push,if_neg (by simpa using A0)]
    exact .mk ⟨rfl,by rw [e];exact hs.tail⟩
  ·rintro fr w ⟨rfl,hs⟩;rw [List.take_length] at hs;refine nT (.af (.z zm (.z znc (.z (zfa dh) (.y hs (zld an) (.z zm ?_))))));first|(refine .ixv hs ae ak ?_;intro b96 o96 Ia)|refine .z (zix ae ak) ?_
   refine .q hs (eN rfl ai (hv:=fG Jj sp)) (.z zm (.z cP ?_));first|(refine .ixv hs ae ak ?_;intro Sk o100 zG)|refine .z (zix ae ak) ?_
   refine .o (.store hs rfl rfl ak ?_ cZ (qu Jj sp) (lL Jj sp _));intro w hs;refine .nil (.region (.z zm (.z znc (.z (zfa dh) (.y hs (zld an) (.z zm ?_))))));first|(refine .ixv hs ae ak ?_;intro Si o106 zF)|refine .z (zix ae ak) ?_
   refine .q hs (eN rfl ai (hv:=fG (by rw [List.length_set];exact OP) sp)) ?_;refine .z zm (.z jc ?_);first|(refine .ixv hs ae ak ?_;intro b110 o110 Ti)|refine .z (zix ae ak) ?_
   refine .o (.store hs rfl rfl ak ?_ cZ (qu (by rw [List.length_set];exact OP) sp) (lL (by rw [List.length_set];exact OP) sp _));intro w hs;exact .nil (Fin.uX results212 hs)
theorem ES{w:List Int}{N:Nat}(hw:w.length=N+1):gi (w.set 0 (-kG w k)) 0 - gi (w.set 0 (-kG w k)) (k+1)= -kG w (k+1):=by
 rw [gZ aj,gZ aj,if_pos rfl,if_neg aj];simp only [kG,aP];omega
theorem uD{w:World}{v:Value}{s:dd}(hs:St H w σ)(bq:s.Ok)(hr:RSy H v s)(zx:RI H vw ws)(Gq:ws.length=s.n)(ru:je ws)(E7:s.Sound):
  TN 140 [v,vw] w fun v w'=>(v= .tuple #[.pointer none,.bool false]∧px s.cJ (pA ws s.n) s.n∧St H w' σ)∨
   (∃H1 bf bt bl cl ts lf vl sp,HLe H H1∧v= .tuple #[Pt bf,.bool true]∧vT H1 bf s ts lf vl bt bl cl sp∧sm s.n s.cJ (pA ws s.n) ts∧St H1 w' σ):=by
 obtain ⟨vl,rfl,hr⟩:=hr;obtain ⟨al,cpl,rfl⟩:=RL.shape hr;obtain ⟨aw,cw,rfl⟩:=RI.shape zx;obtain ⟨N,hN⟩:=Int.eq_ofNat_of_zero_le bq.m0;have RO:=bq.m1;have hn:s.n=N+1:=by simp [dd.n,hN]
 have KM:=bq.len;have p6:=bq.cJ;have Il:s.cJ.length=s.cR.length:=by simp [dd.cJ,dY]
 have C2:Co s.cJ:=fun i x hx=>⟨qy hx,(bq.cJ.2 x (List.mem_of_getElem? hx)).2.2.2.2.2⟩
 have fh:∀x∈s.cJ,x.f<s.n∧x.t<s.n:=fun x hx=>by have:=p6.2 x hx;omega
 have P1:=I3 ws (n:=s.n) aj;unfold je at ru;rw [Gq] at ru;refine Cl.o func140 ntmps140 ag2 ?_;refine .af (.bx hs fun b2 w hs=>?_);refine .z zg (.zn zg (.scope (.cut (fun fs w=>∃bf bt bl cl sp,nv fs ⟨73,[],[(6,Pt bf)]⟩∧St H w (.blk bf [I s.many,.slice al s.cR.length cpl,.slice (some ⟨bt,0,none⟩) s.cR.length s.cR.length,.slice (some ⟨bl,0,none⟩) ws.length cl]:: .blk bt (Is (List.replicate s.cR.length 0)):: .blk bl (Is ws++sp)::σ)) ?_ ?_)))
 ·refine .draw mix rfl hs fun w hs=>?_
  refine .ys 0 rfl hs [_,_] dp bF ?_;refine .z 1 rfl (zfa bN) ?_;refine .y 2 rfl hs fJ ?_;refine .z 3 rfl (cH a7) ?_;refine .z 5 rfl zm ?_;refine .e2 (i:=4) (j:=6) az rfl rfl rfl rfl .none .none hs ?_ ?_
  ·refine .y9 s.cR.length hs rfl rfl ae qD rfl ak dA aj ?_;intro IS w hs;refine .go (.E 6 hs ?_);refine .call call210 rfl (ig hs zx aj) ?_;rintro v17 w ⟨en17,hO,hs⟩;obtain ⟨bl,cl,sp,rfl,rfl,DK⟩:=hO.some aj;refine .go (.zw 7 rfl (zbd [_,_,_,_] ow) (.E 8 hs ?_));refine .box hs rfl rfl ?_;intro Ch w hs;refine .go (.zw 9 rfl zg ?_);refine .D hs ?_;exact nT ⟨Ch,IS,bl,cl,sp,bk,hs.sb⟩
  ·refine .call call210 rfl (ig hs zx aj) ?_;rintro v17 w ⟨en17,hO,hs⟩;obtain ⟨bl,cl,sp,rfl,rfl,DK⟩:=hO.some aj;refine .go (.E 4 hs ?_);refine .y9 s.cR.length hs rfl rfl ae qD rfl ak dA aj ?_;intro IS w hs;refine .go (.zw 7 rfl (zbd [_,_,_,_] ow) (.E 8 hs ?_));refine .box hs rfl rfl ?_;intro Ch w hs;refine .go (.zw 9 rfl zg ?_);refine .D hs ?_;exact nT ⟨Ch,IS,bl,cl,sp,bk,hs.sb⟩
 ·rintro fs w ⟨bf,bt,bl,cl,sp,lk,hs⟩;refine WE.sub ?_ lk;obtain ⟨H1,aq,Rx,hs⟩:=hs.bK .here;have hf0:cellAt H1 bf 0=some (I (N:Int)):=by have:=Rx.at 0 (v:=I s.many);rwa [hN] at this
  have O2:cellAt H1 bf 3=some (.slice (some ⟨bl,0,none⟩) ws.length cl):=Rx.at 3;have zy:=hr.mono aq;refine .af (.z zm (.z znc (.z (zfa dh) (.y hs (zld an) (.q hs (kA (k:=0) rfl rfl ae ak rfl aj) (.o (.store hs rfl rfl ak ?_ cZ (qu aj sp) (lL aj sp _))))))));intro w hs;refine .nil (.seq (.af (.z zm (.z znc (.z (zfa fi) (.z (zfa bH) (.y hs (zld ai) (.zn zm (.for (N:=N) (J:=fun k fr w=>fr=[(6,Pt bf)]∧St H1 w (.blk bt (Is (List.replicate s.cR.length 0)):: .blk bl (Is (ws.set 0 (-kG ws k))++sp)::σ)) aj ?_ ?_ ?_)))))))))
  ·exact .mk ⟨rfl,by simpa [kG,aP] using hs⟩
  ·rintro k fr w hk ⟨rfl,hs⟩;have e:=ES (w:=ws) (N:=N) (k:=k) aj;have xP:=wi ws (k+1);have uU:bA ws (k+1+1)≤bA ws s.n:=qS (fun v=>by omega) aj;simp only [FF] at ru;refine .block (.af (.z zm (.zn zg (.draw mix rfl hs fun w hs=>?_))));refine .zw 0 rfl zm ?_;refine .z 1 rfl znc ?_;refine .z 2 rfl (zfa dh) ?_;refine .y 3 rfl hs an ?_;refine .zw 4 rfl (kA (k:=0) rfl rfl ae ak rfl aj) (.load (i:=5) hs rfl az .none rfl ai ?_ (hv:=fG (by rw [List.length_set];omega) sp));refine .zw 6 rfl zm ?_;refine .z 7 rfl znc ?_;refine .z 8 rfl (zfa dh) ?_;refine .y 9 rfl hs an ?_;refine .z 10 rfl zm ?_;refine .z 11 rfl cP ?_;refine .zw 12 rfl (kA (k:=k+1) rfl rfl ae ak aj aj) (.load (i:=13) hs rfl az .none rfl ai ?_ (hv:=fG (by rw [List.length_set];omega) sp));refine .zw 14 rfl jc (.zw 15 rfl (kA (k:=0) rfl rfl ae ak rfl aj) (.E 16 hs ?_));refine .store hs rfl rfl ak ?_ cZ (qu (by rw [List.length_set];omega) sp) (lL (by rw [List.length_set];omega) sp _);intro w hs;refine .go (.D hs (nB (nT ?_)));rw [e,List.set_set] at hs;exact .mk ⟨rfl,hs⟩
  ·rintro fr w ⟨rfl,hs⟩;have zK:yt s.n s.cJ (pA ws s.n) (List.replicate s.cR.length 0) (ws.set 0 (-kG ws N)):=by
    rw [←Il,hn];rw [hn] at ru;refine yt.start ru (by rw [List.length_set];omega) (fun v hv=>?_) E7;rw [gZ aj]
    cases v with
    |zero=>rw [if_pos rfl,Aq]
    |succ v=>rw [if_neg aj,Ar]
   refine nT (.seq (.label (nT (.block ?_))));refine .loop (fun _:bC×List Int×List Int=>⟨73,[],[(6,Pt bf)]⟩)
    (fun p w=>HLe H1 p.1∧yt s.n s.cJ (pA ws s.n) p.2.1 p.2.2∧St p.1 w (.blk bt (Is p.2.1):: .blk bl (Is p.2.2++sp)::σ)) (fun p=>(rem s.n p.2.2).toNat) (H1,List.replicate s.cR.length 0,ws.set 0 (-kG ws N))
    bk ⟨HLe.refl _,zK,hs⟩ ?_
   rintro ⟨H2,ts,lf⟩ w ⟨aW,hI,hs⟩;dsimp only at aW hI hs ⊢;have fu:=hI.lt;have vI:=hI.ll;have Io:Row H2 bf [I s.many,.slice al s.cR.length cpl,.slice (some ⟨bt,0,none⟩) ts.length ts.length,.slice (some ⟨bl,0,none⟩) lf.length cl]:=by
    rw [fu,Il,vI,←Gq];exact Rx.mono aW
   have hf32:cellAt H2 bf 3=some (.slice (some ⟨bl,0,none⟩) lf.length cl):=Io.at 3;refine .block (.seq (.af (.z zm (.z znc (.z (zfa dh) (.y hs (zld an) (.z (cH ae) (.zn zm (.for (N:=lf.length) (J:=fun k fr w=>fr=[(53,.slice (some ⟨bl,0,none⟩) lf.length cl),(6,Pt bf)]∧(∀v<k,gi lf v≤0)∧St H2 w (.blk bt (Is ts):: .blk bl (Is lf++sp)::σ)) aj ?_ ?_ ?_)))))))))
   ·exact .mk ⟨rfl,fun v hv=>by omega,hs⟩
   ·rintro k fr w hk ⟨rfl,eU,hs⟩;refine .block (.af (.z zm ?_));first|(refine .ixv hs ae ak ?_;intro On o58 vK)|refine .z (zix ae ak) ?_
    refine .q hs (eN rfl ai (hv:=fG hk sp)) (.z zg (.zn zg (.seq (.af (.z zm (.zn pE (.cu rfl (fun A1=>?_) (fun A1=>?_))))))))
    ·refine .exit (xT (xB (nT ?_)));exact .mk ⟨rfl,fun v hv=>by
       by_cases e:v=k
       ·subst e;exact A1
       ·exact eU v aj,hs⟩
    ·refine .skip (nT (.af (.z zm (.z zm ?_))));obtain ⟨Ha,Np,hra,hsa,-,hba⟩:=hs.AP;obtain ⟨Hb,DN,hrb,hsb,-,A2⟩:=hsa.AP;refine .o (.call call211 rfl (pc (s:=s) (to:=k) hsb bq ⟨Io.mono (Np.trans DN),hr.mono (aq.trans (aW.trans (Np.trans DN))),hra.mono DN,hrb⟩ aj aj hI.fe aj aj) ?_);rintro v64 w ⟨Hc,p,en,LR,hO,yz,Tp⟩;have hs:=hba (HLe.refl _) (A2 LR yz);obtain ⟨ap,lp,cp,rfl,hlp⟩:=hO.shape;obtain rfl:lp=p.length:=by rw [dc] at hlp;omega
     refine .zn zg (.seq (.af (.z zm (.z (cH au) (.zn gQ (.cu rfl (fun A0=>?_) (fun A0=>?_)))))))
     ·refine .af (.z zg (.zn zg (.ret (rT (rB (rT (rB (rT (rB (rT (rB (rS (Fin.oe results140 rfl rfl ?_)))))))))))))
      rcases Tp with ⟨_,R,hS,hR,qG⟩|⟨hp,_⟩
      ·exact .inl ⟨rfl,hI.open fh hS hR aj qG aj,(hs.le (aq.trans aW)).out⟩
      ·exact (hp (List.length_eq_zero_iff.1 aj)).elim
     ·refine .skip (nT (.af (.z zm (.z zm ?_))));obtain ⟨hp,Gr,u,hw⟩:=Tp.resolve_left fun h=>by rw [h.1] at A0;exact A0 rfl
      obtain ⟨H3,bO,hRS,hs⟩:=bG.bK (cs:=p.map Arc.v) hO (fun c hc=>by simp only [List.mem_map] at hc;obtain ⟨x,_,rfl⟩:=hc;rfl) aj (by rw [List.length_map];omega) hs cZ;refine .o (.call call212 rfl (nR hs bq (Io.mono bO) (hr.mono (aq.trans (aW.trans bO))) hRS hI hw hp Gr) ?_);rintro v70 w hs;refine .nil (.exit (xN (xT (xN (xT (xB (nT ?_)))))));obtain ⟨q1,q2⟩:=hI.send C2 hw aj;have q3:0≤rem s.n (AO lf (rW s.cJ ts lf p u k) u k):=cQ fun v _=>by omega
      exact ⟨(H3,ft s.cJ (rW s.cJ ts lf p u k) ts p,AO lf (rW s.cJ ts lf p u k) u k),bk,⟨aW.trans bO,q1,hs⟩,by dsimp only;omega⟩
   ·rintro fr w ⟨rfl,eU,hs⟩;refine nT (.af (.z zm (.z zg (.zn zg (.ret (rB (rT (rB (rS (Fin.oe results140 rfl rfl ?_))))))))));obtain ⟨H3,l3,r3,hs⟩:=hs.bK .here;obtain ⟨H4,l4,r4,hs⟩:=hs.bK .here;exact .inr ⟨H4,bf,bt,bl,cl,ts,lf,_,sp,aq.trans (aW.trans (l3.trans l4)),rfl,⟨Io.mono (l3.trans l4),hr.mono (aq.trans (aW.trans (l3.trans l4))),r3.mono l4,r4⟩,hI.ok fh P1 (fun v hv=>eU v aj),hs⟩
theorem qq{w:World}{v:Value}(hs:St H w σ)(hr:RI H v ws):TN 207 [v] w fun v w'=>∃b,v= .bool b∧(b=true↔je ws)∧St H w' σ:=by
 obtain ⟨a,c,rfl⟩:=RI.shape hr;have hl:=(RI.len hr).2.2;refine Cl.o func207 ntmps207 ag1 ?_;refine .af (.zn zg (.af (.zn zg (.seq (.af (.z zm (.z (cH ae) (.zn zm (.for (N:=ws.length) (J:=fun k fr w=>fr=[(6,.slice a ws.length c),(3,I (3600000000000 - bA ws k))]∧bA ws k≤3600000000000∧St H w σ) aj ?_ ?_ ?_)))))))))
 ·exact .mk ⟨rfl,by simp [bA,aP],hs⟩
 ·rintro k fr w hk ⟨rfl,hle,hs⟩;have hx:=bJ hk;have h0:0≤bA ws k:=cQ fun v _=>by omega
  have h1:bA ws (k+1)=bA ws k+max (gi ws k) (-gi ws k):=rfl;refine .block (.af ?_);first|(refine .ixv hs ae ak ?_;intro ib o10 sH)|refine .z (zix ae ak) ?_
  refine .y hs (zld ai) (.zn zg (.seq (.af (.z zm (.z zm (.z I1 (.z iG (.z zm (.lI (t':=16) rfl (fun o8=>?_) (fun o8=>?_))))))))))
  ·exact .Fs 3 4 false (.zn zpT (.cT (.af (.zn zg (.ret (rT (rB (rT (rB (rT (Fin.bw results207 rfl ⟨false,rfl,⟨fun h=>(by cases h),fun h=>(wk (k:=k+1) hk (by simp only [FF];omega) h).elim⟩,hs⟩)))))))))))
  ·refine .T (.z zm (.T (.z zm (.T (.z uS (.zn zpF (.cu rfl (fun vM=>?_) (fun vM=>?_))))))))
   ·exact .af (.zn zg (.ret (rT (rB (rT (rB (rT (Fin.bw results207 rfl ⟨false,rfl,⟨fun h=>(by cases h),fun h=>(wk (k:=k+1) hk (by simp only [FF];omega) h).elim⟩,hs⟩))))))))
   ·exact .skip (nT (.region (.z zm (.z zm (.z zm (.z I1 (.z LH (.z jc (.zn zg (nB (nT (.mk ⟨rfl,aj,hs⟩ (hs:= .cons rfl (.cons rfl (.cons rfl (.dI rfl aj (.nil rfl rfl)))))))))))))))))
 ·rintro fr w ⟨rfl,hle,hs⟩;exact nT (.af (.zn zg (.ret (Fin.bw results207 rfl ⟨true,rfl,⟨fun _=>hle,fun _=>rfl⟩,hs⟩))))
theorem lY{w:World}{v:Value}{s:dd}(hs:St H w σ)(hr:RSy H v s)(zx:RI H vw ws):TN 138 [v,vw] w fun v w'=>v=I (gI s ws)∧St H w' σ:=by
 obtain ⟨vl,rfl,hr⟩:=hr;obtain ⟨al,cpl,rfl⟩:=RL.shape hr;obtain ⟨aw,cw,rfl⟩:=RI.shape zx;have hlw:=(RI.len zx).2.2;have hn:s.check=0→0≤s.many∧s.many≤64∧(s.n:Int)=s.many+1:=fun h=>by
  have h1:=s.eO.1 h;have:=h1.m0;have:=h1.m1;simp only [dd.n];omega
 refine Cl.o func138 ntmps138 ag2 ?_;refine .af (.bx hs fun b2 w hs=>?_);refine .zn zg (.seq (.af (.y hs (zls [_,_] dp bF) (.o (.call call113 rfl (jQ (s:=s) hs ⟨_,rfl,hr⟩) ?_)))));rintro _ w ⟨rfl,hs⟩;refine .zn zg (.af (.z zm (.zn gL (.gU rfl (fun pC=>?_) (fun pC=>?_)))))
 ·exact .af (.z zm (.zn zg (.ret (rT (Fin.bw results138 rfl ⟨by unfold gI;rw [if_pos pC],hs.tail⟩)))))
 ·refine .skip (nT (.seq (.af (.z zm ?_))));obtain ⟨n0,n1,n2⟩:=hn pC;refine .z (cH ae) (.z (zfa bH) (.y hs (zld ai) (.z cP (.z gL (.z zm (.F9 (t':=17) rfl (fun FC=>?_) (fun FC=>?_)))))))
  ·exact .Fs 3 6 false (.zn zpT (.cT (.af (.zn zg (.ret (rT (Fin.bw results138 rfl ⟨by unfold gI;rw [if_neg aj,if_neg aj],hs.tail⟩)))))))
  ·refine .T (.z zm (.T (.o (.call call207 rfl (qq hs zx) ?_))));rintro _ w ⟨bz,rfl,Tk,hs⟩;refine .T (.z iW (.zn zpF (.cond rfl (fun sG=>?_) (fun sG=>?_))))
   ·exact .af (.zn zg (.ret (rT (Fin.bw results138 rfl ⟨by unfold gI;rw [if_neg aj,if_neg (fun h=>by rw [Tk.2 h.2] at sG;cases sG)],hs.tail⟩))))
   ·exact .skip (nT (.af (.zn zg (.ret (Fin.bw results138 rfl ⟨by unfold gI;rw [if_neg aj,if_pos ⟨aj,Tk.1 (by simpa using sG)⟩],hs.tail⟩)))))
theorem jP{w:World}{v:Value}{s:dd}(hs:St H w σ)(hr:RSy H v s)(zx:RI H vw ws):
  TN 72 [v,vw] w fun v w'=>∃H1 e pf,HLe H H1∧v= .tuple #[pf,I e]∧Gn s ws e∧St H1 w' σ∧(e≠0→pf= .pointer none)∧
   (e=0→∃bf bt bl cl ts lf vl sp,pf=Pt bf∧vT H1 bf s ts lf vl bt bl cl sp∧sm s.n s.cJ (pA ws s.n) ts∧s.Ok∧bA ws s.n≤FF):=by
 obtain ⟨vl,rfl,hr⟩:=hr;refine Cl.o func72 ntmps72 ag2 ?_;refine .af (.bx hs fun b2 w hs=>?_);refine .z zg (.zn zg (.seq (.af (.y hs (zls [_,_] dp bF) (.z zm (.o (.call call138 rfl (lY (s:=s) hs ⟨_,rfl,hr⟩ zx) ?_)))))));rintro _ w ⟨rfl,hs⟩;refine .zn zg (.af (.z zm (.zn gL (.gU rfl (fun iX=>?_) (fun iX=>?_)))))
 ·exact .af (.z zm (.z zg (.zn zg (.ret (rT (Fin.oe results72 rfl rfl ⟨H,_,_,HLe.refl _,rfl,.bad iX,hs.tail,fun _=>rfl,fun h=>(iX h).elim⟩))))))
 ·refine .skip (nT (.seq (.af (.y hs (zls [_,_] dp bF) ?_))));obtain ⟨bq,Gq,ru⟩:=uK iX;refine .o (.call call139 rfl (qp (s:=s) hs bq ⟨_,rfl,hr⟩) ?_);rintro _ w ⟨H1,b,aq,rfl,hb,hs⟩;refine .zn iW (.cond rfl (fun kq=>?_) (fun kq=>?_))
  ·exact .af (.z zg (.zn zg (.ret (rT (Fin.oe results72 rfl rfl ⟨H1,_,_,aq,rfl,.clash iX (fun h=>by rw [hb.2 h] at kq;cases kq),hs.tail,fun _=>rfl,fun h=>by cases h⟩)))))
  ·refine .skip (nT (.af (.y hs (zls [_,_] dp bF) (.z zm ?_))));have E7:s.Sound:=hb.1 (by simpa using kq);refine .o (.call call140 rfl (uD (s:=s) hs bq ⟨_,rfl,hr.mono aq⟩ (zx.mono aq) Gq ru E7) ?_);rintro v21 w jv;obtain ⟨pf,bb,H2,aW,rfl,hs,hT,hF⟩:∃pf bb H2,HLe H1 H2∧v21= .tuple #[pf,.bool bb]∧St H2 w (.blk b2 [I s.many,vl]::σ)∧(bb=false→pf= .pointer none∧px s.cJ (pA ws s.n) s.n)∧
     (bb=true→∃bf bt bl cl ts lf vl sp,pf=Pt bf∧vT H2 bf s ts lf vl bt bl cl sp∧sm s.n s.cJ (pA ws s.n) ts):=by
    rcases jv with ⟨rfl,h1,h2⟩|⟨H2,bf,bt,bl,cl,ts,lf,vl,sp,h1,rfl,h2,h3,h4⟩
    ·exact ⟨_,false,H1,HLe.refl _,rfl,h2,fun _=>⟨rfl,h1⟩,fun h=>by cases h⟩
    ·exact ⟨_,true,H2,h1,rfl,h4,fun h=>(by cases h),fun _=>⟨bf,bt,bl,cl,ts,lf,vl,sp,rfl,h2,h3⟩⟩
   refine .z zm (.z zex (.z zex (.z zg (.zn zg (.seq (.af (.z zm (.zn iW (.cond rfl (fun jx=>?_) (fun jx=>?_))))))))))
   ·exact .af (.z zg (.zn zg (.ret (rT (Fin.oe results72 rfl rfl ⟨H2,_,_,aq.trans aW,rfl,.opn iX E7 (hT (by simpa using jx)).2,hs.tail,fun _=>rfl,fun h=>by cases h⟩)))))
   ·refine .skip (nT (.af (.z zm (.z zg (.zn zg (.ret (Fin.oe results72 rfl rfl ?_)))))));obtain ⟨bf,bt,bl,cl,ts,lf,vl,sp,rfl,h2,h3⟩:=hF (by simpa using jx);have Qy:0<s.n:=by simp [dd.n]
    have ud:s.n≤65:=by have:=bq.m0;have:=bq.m1;simp only [dd.n];omega
    have MX:bA ws s.n≤FF:=by unfold je at ru;rwa [Gq] at ru
    exact ⟨H2,_,_,aq.trans aW,rfl,.ok iX E7 (h3.value Qy ud bq.cJ MX).2.1,hs.tail,fun h=>(h rfl).elim,fun _=>⟨bf,bt,bl,cl,ts,lf,vl,sp,rfl,h2,h3,bq,MX⟩⟩
theorem gG{w:World}{s:dd}{ts:List Int}(hs:St H w σ)(bq:s.Ok)(hF:vT H bf s ts lf vl bt bl cl sp)(JK:sm s.n s.cJ (pA ws s.n) ts)(ru:bA ws s.n≤FF):
  TN 73 [Pt bf] w fun v w'=>v=I (dot s.cJ ts (·.c))∧Gg s.cJ (s.wt ws) s.n (dot s.cJ ts (·.c))∧dot s.cJ ts (·.c)≤BB∧-BB≤dot s.cJ ts (·.c)∧St H w' σ:=by
 obtain ⟨TB,TA,hFt,hFd⟩:=hF;obtain ⟨al,cpl,rfl⟩:=RL.shape TA;have KM:=bq.len;have Il:s.cJ.length=s.cR.length:=by simp [dd.cJ,dY]
 have fu:=JK.lt;have Qy:0<s.n:=by simp [dd.n]
 have ud:s.n≤65:=by have:=bq.m0;have:=bq.m1;simp only [dd.n];omega
 have hv:=JK.value Qy ud bq.cJ ru;have hd:=FY (es:=s.cJ) fu;have hf1:cellAt H bf 1=some (.slice al s.cR.length cpl):=TB.at 1;have hf2:cellAt H bf 2=some (.slice (some ⟨bt,0,none⟩) ts.length ts.length):=TB.at 2;refine Cl.o func73 ntmps73 ag1 ?_;refine .af (.zn zg (.af (.zn zg (.seq (.af (.z zm (.z znc (.z (zfa fi) (.z (zfa bN) (.y hs (zld fJ) (.z (cH a7) (.zn zm (.for (N:=s.cR.length) (J:=fun k fr w=>fr=[(10,.slice al s.cR.length cpl),(3,I (IntKind.i64.wrap (Dm s.cJ ts k))),(0,Pt bf)]∧St H w σ) aj ?_ ?_ ?_)))))))))))))
 ·exact .mk ⟨rfl,hs⟩ (hs:= .cons rfl (.cons rfl (.cons rfl (.dI rfl (by simp [Dm,aP,wE]) (.cons rfl (.nil rfl rfl))))))
 ·rintro k fr w hk ⟨rfl,hs⟩;obtain ⟨l,hl⟩:=nth hk;have hg:(ga s.cJ k).c=l.M:=by simp [ga,dd.cJ,j6 hl,Lim.arc]
  have LP:=bq.lim l (List.mem_of_getElem? hl);have LS:k<ts.length:=by omega
  have Qa:=JK.nn k aj;have hct:cellAt H bt k=some (I (gi ts k)):=hFt.at k (iK LS);have hmul:gi ts k*l.M≤72000000000000000∧-72000000000000000≤gi ts k*l.M:=by
   simp only [FF] at Qa;have g1:gi ts k*l.M≤gi ts k*20000:=Int.mul_le_mul_of_nonneg_left LP.2.2.2.1.2 Qa.1;have g2:gi ts k*(-20000)≤gi ts k*l.M:=Int.mul_le_mul_of_nonneg_left LP.2.2.2.1.1 Qa.1;omega
  refine .block (.af (.z zm (.ixX hs TA rfl rfl a7 ck hl rfl ?_)));intro IS o15 um;refine .q hs (bE (vs:=l.c) rfl ve ck um) (.o (.alloc hs jU rfl fun b5 w hs=>?_));refine .z zg (.o (.aS (vs:=l.c) hs rfl rfl ck fun w hs=>?_));refine .nil (.draw mix rfl hs fun w hs=>?_);refine .zw 0 rfl zm ?_;refine .z 1 rfl zm ?_;refine .z 2 rfl znc ?_;refine .z 3 rfl (zfa gD) ?_;refine .y 4 rfl hs an ?_;refine .z 5 rfl zm ?_;refine .zw 6 rfl (kA (k:=k) rfl rfl ae ak rfl LS) (.r (i:=7) hs rfl az .none (aQ rfl ai hct) ?_);refine .zw 8 rfl (zfa eX) ?_;refine .y 9 rfl hs ai ?_;refine .z 10 rfl mm ?_;refine .zw 11 rfl (Hf rfl rfl) (.zw 12 rfl zg ?_);refine .D hs ?_;exact nB (nT (.mk ⟨rfl,hs.tail⟩ (hs:= .cons rfl (.cons rfl (.cons rfl (.dI rfl (by rw [AS];simp only [Dm,aP,hg]) (.cons rfl (.nil rfl rfl))))))))
 ·rintro fr w ⟨rfl,hs⟩;rw [←Il,←hd,kZ (by have:=hv.2.2;simp only [BB] at this;omega)];exact nT (.af (.z zm (.zn zg (.ret (Fin.bw results73 rfl ⟨rfl,hv.1,hv.2.2.1,hv.2.2.2,hs⟩)))))
theorem uE{w:World}{v:Value}{s:dd}(hs:St H w σ)(hr:RSy H v s)(zx:RI H vw ws):
  TN 27 [v,vw] w fun v w'=>∃H1 n e,HLe H H1∧v= .tuple #[I n,I e]∧py s ws n e∧St H1 w' σ:=by
 obtain ⟨vl,rfl,hr⟩:=hr;refine Cl.o func27 ntmps27 ag2 ?_;refine .af (.bx hs fun b2 w hs=>?_);refine .z zg (.zn zg (.af (.y hs (zls [_,_] dp bF) (.z zm (.o (.call call72 rfl (jP (s:=s) hs ⟨_,rfl,hr⟩ zx) ?_))))));rintro _ w ⟨H1,e,pf,aq,rfl,hA,hs,eD,heq⟩;refine .z zm (.z zex (.z zex (.z zg (.zn zg (.seq (.af (.z zm (.zn gL (.gU rfl (fun um=>?_) (fun um=>?_))))))))))
 ·exact .af (.z zm (.z zg (.zn zg (.ret (rT (Fin.oe results27 rfl rfl ⟨H1,_,_,aq,rfl,⟨hA,fun _=>rfl,fun h=>(um h).elim⟩,hs.tail⟩))))))
 ·refine .skip (nT (.af (.z zm ?_)));subst um;obtain ⟨bf,bt,bl,cl,ts,lf,vl,sp,rfl,hF,JK,bq,ru⟩:=heq rfl;refine .o (.call call73 rfl (gG hs bq hF JK ru) ?_);rintro _ w ⟨rfl,h1,h2,h3,hs⟩;exact .z zg (.zn zg (.ret (Fin.oe results27 rfl rfl ⟨H1,_,_,aq,rfl,⟨hA,fun h=>(h rfl).elim,fun _=>⟨h1,h2,h3⟩⟩,hs.tail⟩)))
theorem rJ{w:World}(hs:St H w σ)(zx:RI H vw ws)(hlw:ws.length≤1000000)(hb:∀k,-9223372036854775807≤gi ws k∧gi ws k≤9223372036854775807):
  TN 102 [vw] w fun v w'=>∃H1,HLe H H1∧RI H1 v (AI ws)∧St H1 w' σ:=by
 obtain ⟨aw,cw,rfl⟩:=RI.shape zx;refine Cl.o func102 ntmps102 ag1 ?_;refine .af (.zn zg (.af (.z zm (.z (cH ae) (.o (.y9 ws.length hs rfl rfl ae qD rfl ak dA aj fun b8 w hs=>?_))))));refine .zn zg (.seq (.af (.z zm (.z (cH ae) (.zn zm (.for (N:=ws.length) (J:=fun k fr w=>fr=[(9,.slice aw ws.length cw),(3,.slice (some ⟨b8,0,none⟩) ws.length ws.length)]∧∃L,(L.length=ws.length∧∀v<ws.length,gi L v=if v<k then -gi ws v else 0)∧St H w (.blk b8 (Is L)::σ)) aj ?_ ?_ ?_))))))
 ·exact .mk ⟨rfl,_,⟨bj,fun v hv=>by rw [ee _ _ hv,if_neg aj]⟩,hs⟩
 ·rintro k fr w hk ⟨rfl,L,⟨Pc,N9⟩,hs⟩;have hx:=bJ hk;have Ih:=hb k;refine .block (.af (.z zm ?_));first|(refine .ixv hs ae ak ?_;intro vQ o14 gY)|refine .z (zix ae ak) ?_
  refine .y hs (zld ai) (.z zg (.zn zg (.region (.z zm (.z zm (.z zm (.z I1 ?_)))))));first|(refine .ixv hs ae ak ?_;intro Pu o20 vM)|refine .z (zix ae ak) ?_
  refine .o (.store hs rfl rfl ak fun w hs=>?_);refine .nil (nB (nT (.mk ⟨rfl,_,⟨by rw [List.length_set];exact Pc,fun v hv=>?_⟩,hs⟩)));rw [gZ aj];by_cases e:v=k
  ·subst e;rw [if_pos rfl,if_pos aj]
  ·rw [if_neg e,N9 v hv];congr 1;apply propext;omega
 ·rintro fr w ⟨rfl,L,⟨Pc,N9⟩,hs⟩;obtain rfl:L=AI ws:=JR (by simp [Pc,AI]) (fun k hk=>by rw [N9 k aj,if_pos aj,FL]);refine nT (.af (.z zm (.zn zg (.ret (Fin.bw results102 rfl ?_)))));obtain ⟨H1,g1,g2,hs⟩:=hs.bK .here;refine ⟨H1,g1,?_,hs⟩;rw [←Pc];exact Row.RI (spare:=[]) (by simpa using g2) _ (Nat.le_refl _) aj
theorem sM{w:World}{v:Value}{s:dd}(hs:St H w σ)(hr:RSy H v s)(zx:RI H vw ws):
  TN 52 [v,vw] w fun v w'=>∃H1 lo hi e,HLe H H1∧v= .tuple #[I lo,I hi,I e]∧jF s ws lo hi e∧St H1 w' σ:=by
 obtain ⟨vl,rfl,hr⟩:=hr;refine Cl.o func52 ntmps52 ag2 ?_;refine .af (.bx hs fun b2 w hs=>?_);refine .z zg (.z zg (.zn zg (.af (.y hs (zls [_,_] dp bF) (.z zm (.o (.call call72 rfl (jP (s:=s) hs ⟨_,rfl,hr⟩ zx) ?_)))))));rintro _ w ⟨H1,e,pf,aq,rfl,hA,hs,eD,heq⟩;refine .z zm (.z zex (.z zex (.z zg (.zn zg (.seq (.af (.z zm (.zn gL (.gU rfl (fun dX=>?_) (fun dX=>?_))))))))))
 ·exact .af (.z zm (.z zg (.z zg (.zn zg (.ret (rT (Fin.PD results52 rfl rfl rfl ⟨H1,_,_,_,aq,rfl,.first ⟨hA,fun _=>rfl,fun h=>(dX h).elim⟩ dX,hs.tail⟩)))))))
 ·refine .skip (nT (.seq (.draw mix rfl hs fun w hs=>?_)));refine .ys 0 rfl hs [_,_] dp bF ?_;refine .z 1 rfl zm ?_;refine .E 2 hs ?_;subst dX;obtain ⟨bf,bt,bl,cl,ts,lf,qQ,sp,rfl,hF,JK,bq,ru⟩:=heq rfl;have Gq:=(uK hA.zero.1).2.1;have hbw:∀k,-9223372036854775807≤gi ws k∧gi ws k≤9223372036854775807:=fun k=>by
   simp only [FF] at ru;by_cases hk:k<s.n
   ·have:=nz ws hk;omega
   ·have:gi ws k=0:=by simp [gi,List.getElem?_eq_none (show ws.length≤k by omega)]
    omega
  refine .call call102 rfl (rJ hs (zx.mono aq) (by have:=bq.m1;simp only [dd.n] at Gq;omega) hbw) ?_;rintro v21 w ⟨H2,aW,Qp,hs⟩;refine .go (.E 3 hs ?_);refine .call call72 rfl (jP (s:=s) hs ⟨_,rfl,hr.mono (aq.trans aW)⟩ Qp) ?_;rintro _ w ⟨H3,e2,pg,bO,rfl,Pe,hs,hne2,QS⟩;refine .go (.zw 4 rfl zm ?_);refine .z 5 rfl zex ?_;refine .z 6 rfl zex ?_;refine .z 7 rfl zg ?_;refine .z 8 rfl zg ?_;refine .D hs ?_;refine .seq (.af (.z zm (.zn gL (.gU rfl (fun iJ=>?_) (fun iJ=>?_)))))
  ·refine .af (.z zm (.z zg (.z zg (.zn zg (.ret (rT (Fin.PD results52 rfl rfl rfl ?_)))))));obtain ⟨q1,q2,q3,q4⟩:=JK.value (by simp [dd.n]) (by have:=bq.m0;have:=bq.m1;simp only [dd.n];omega) bq.cJ ru;exact ⟨H3,_,_,_,aq.trans (aW.trans bO),rfl,.second ⟨hA,fun h=>(h rfl).elim,fun _=>⟨q1,q3,q4⟩⟩ ⟨Pe,fun _=>rfl,fun h=>(iJ h).elim⟩ iJ,hs.tail⟩
  ·refine .skip (nT (.af (.z zm ?_)));subst iJ;obtain ⟨bf2,bt2,bl2,cl2,ts2,lf2,vl2,sp2,rfl,hF2,RW,hok2,Qc⟩:=QS rfl;refine .o (.call call73 rfl (gG hs bq hF2 RW Qc) ?_);rintro _ w ⟨rfl,a1,a2,a3,hs⟩;simp only [BB] at a2 a3;refine .z I1 (.z zm (.o (.call call73 rfl (gG hs bq (hF.mono (aW.trans bO)) JK ru) ?_)));rintro _ w ⟨rfl,c1,c2,c3,hs⟩;exact .z zg (.z zg (.zn zg (.ret (Fin.PD results52 rfl rfl rfl ⟨H3,_,_,_,aq.trans (aW.trans bO),rfl,.ok ⟨hA,fun h=>(h rfl).elim,fun _=>⟨c1,c2,c3⟩⟩ ⟨Pe,fun h=>(h rfl).elim,fun _=>⟨a1,by simp only [BB];omega,by simp only [BB];omega⟩⟩,hs.tail⟩))))
theorem G2{n:Int}(hm:0<m):(n.tmod m+m).tmod m=n%m:=by
 have h2:=Int.lt_tmod_of_pos n hm;rw [Int.tmod_eq_emod_of_nonneg aj,Int.tmod_def,show n - m*n.tdiv m+m=n+m*(1 - n.tdiv m) by rw [Int.mul_sub];omega,Int.add_mul_emod_self_left]
theorem tJ{w:World}{v:Value}{i n:Int}(hs:St H w σ)(hr:RI H v l)(hi:0≤i)(hn:n≤4611686018427387904):TN 154 [v,I i,I n] w fun v w'=>v=I (pR l i n)∧St H w' σ:=by
 obtain ⟨a,c,rfl⟩:=RI.shape hr;have hlen:=(RI.len hr).2.2;refine Cl.o func154 ntmps154 ag3 ?_;refine .af (.zn zg (.seq (.af (.z zm (.z (cH ae) (.z gQ (.z zm (.lI (t':=10) rfl (fun m6=>?_) (fun m6=>?_)))))))))
 ·exact .Fs 2 3 false (.zn zpT (.cT (.af (.zn zg (.ret (rT (Fin.bw results154 rfl ⟨by rw [show pR l i n=0 by unfold pR;rw [if_pos (.inl (List.length_eq_zero_iff.1 aj))]],hs⟩)))))))
 ·refine .T (.z zm (.T (.z iG (.zn zpF (.cu rfl (fun iX=>?_) (fun iX=>?_))))))
  ·exact .af (.zn zg (.ret (rT (Fin.bw results154 rfl ⟨by rw [show pR l i n=0 by unfold pR;rw [if_pos (.inr aj)]],hs⟩))))
  ·refine .skip (nT (.af (.z zm (.z zm (.z zm (.z (cH ae) ?_))))));have S1:0<l.length:=by omega
   have h1:=Int.tmod_nonneg (a:=i) (l.length:Int) hi;have h2:=Int.tmod_lt_of_pos i (b:=(l.length:Int)) aj;have hx:=bJ (l:=l) (i:=(i.tmod (l.length:Int)).toNat) aj;have h3:=Int.tmod_lt_of_pos (gi l (i.tmod (l.length:Int)).toNat) (b:=n) aj;have h4:=Int.lt_tmod_of_pos (gi l (i.tmod (l.length:Int)).toNat) (b:=n) aj;have e:=G2 (n:=gi l (i.tmod (l.length:Int)).toNat) (m:=n) aj;refine .z DS (.ixY hs hr rfl rfl ae ak hx aj ?_);intro Ch o19 nN;exact .q hs (aQ rfl ai nN) (.z zm (.z DS (.z zm (.z cP (.z zm (.z DS (.zn zg (.ret (Fin.bw results154 rfl ⟨by unfold pR;rw [if_neg (fun h=>h.elim (fun h=>by rw [h] at S1;exact Nat.lt_irrefl _ S1) (fun h=>by omega)),←e],hs⟩)))))))))
def wV(i j:Nat):Int:=if i=j then 0 else free
theorem J6{n:Nat}(es:List Arc){T:Nat→Nat→Int}(h:∀i j,i<n→j<n→T i j=wV i j):Lx n es 0 T:=
 ⟨fun i hi=>by rw [h i i hi hi];simp [wV],fun _ _ h=>by omega,fun i j hi hj LU=> .inl (by rw [h i j hi hj];simp [wV,LU])⟩
set_option maxHeartbeats 4000000 in
theorem tH{w:World}{v:Value}{s:dd}(hs:St H w σ)(hr:RSy H v s)(bq:s.Ok):
  TN 151 [v] w fun u w'=>∃H1 rs,HLe H H1∧RT H1 u rs∧Sq s.n rs∧kD s.n s.cJ (gt rs)∧St H1 w' σ:=by
 obtain ⟨ul,rfl,hl⟩:=hr;obtain ⟨al,cl,rfl⟩:=RL.shape hl;have BQ:=bq.m0;have Ju:=bq.m1;have hlen:=bq.len;have SS:=s.EJ;have HO:=bq.n65;have HW:=bq.inn;have OW:s.many+1=(s.n:Int):=by simp only [dd.n];omega
 generalize hn:s.n=n at SS HO HW OW ⊢;refine Cl.o func151 ntmps151 ag1 ?_;refine .af (.bx hs fun b1 w hs=>?_);refine .zn zg (.af (.z (zfa bH) ?_));first|refine .q hs (eN rfl ai (hm:=by repeat (first|exact .here|assumption|exact Mem.row aj aj|refine .there ?_|refine Mem.sP ?_)) (hv:=by first|rfl|exact eF aj|exact kE da aj aj|exact iK kC)) ?_|refine .q hs (aQ rfl ai da) ?_
 refine .z cP ?_;rw [OW];refine .zn zg (.af (.z zm (.o (.MN n hs rfl rfl aC typeInfo22 rfl aL gp aj fun oz w hs=>?_))));refine .zn zg (.seq (.af (.z zm (.z (cH aC) (.zn zm (.for (N:=n) (J:=fun k fr w=>fr=[(3,I (n:Int)),(4,.slice (some ⟨oz,0,none⟩) n n),(1,Pt b1)]∧∃bs:List Nat,bs.length=k∧St H w (.blk oz (bs.map (ptr n)++List.replicate (n - k) (.slice none 0 0))::(kX bs (DJ wV n k)++(.blk b1 [I s.many,.slice al s.cR.length cl]::σ)))) aj ?_ ?_ ?_))))))
 ·exact .mk ⟨rfl,[],rfl,hs⟩
 ·rintro k fr w hk ⟨rfl,bs,Fy,hs⟩;refine .block (.af (.z zm (.zn zg (.af (.z zm (.z zm (.z zm (.o (.y9 n hs rfl rfl ae qD rfl ak dA aj fun uI w hs=>?_)))))))));first|(refine .ixw hs aC aL ?_;intro R9 o26 iJ)|refine .z (zix aC aL) ?_
  refine .o (.store hs rfl rfl aL ?_ cZ (by simp [Fy];omega) (Ks Fy hk));intro w hs;refine .nil (.af (.z zm (.z zm ?_)));first|(refine .ixw hs aC aL ?_;intro Pq o29 Ig)|refine .z (zix aC aL) ?_
  refine .q hs (eN rfl an (hv:=BH Fy)) (.z (cH ae) (.zn zm (.for (N:=n) (J:=fun j fr w=>fr=[(5,I (k:Int)),(19,I (k:Int)),(18,I (n:Int)),(3,I (n:Int)),(4,.slice (some ⟨oz,0,none⟩) n n),(1,Pt b1)]∧St H w (.blk uI (Is ((List.range n).map fun c=>if c<j∧k≠c then free else 0)):: .blk oz ((bs++[uI]).map (ptr n)++List.replicate (n - (k+1)) (.slice none 0 0))::(kX bs (DJ wV n k)++(.blk b1 [I s.many,.slice al s.cR.length cl]::σ)))) aj ?_ ?_ ?_)))
  ·rw [AA (fun c=>if c<0∧k≠c then free else 0) n 0 (fun j _=>by simp)] at hs;exact .mk ⟨rfl,hs⟩
  ·rintro j fr w hj ⟨rfl,hs⟩;refine .block (.af (.z zm (.zn zg (.af (.z zm (.z zm (.zn gL (.gU rfl (fun rC=>?_) (fun rC=>?_)))))))))
   ·refine .region (.z zm (.z zm ?_));first|(refine .ixw hs aC aL ?_;intro Oo o40 rA)|refine .z (zix aC aL) ?_
    refine .q hs (eN rfl an (hv:=BH Fy)) (.z zm ?_);first|(refine .ixv hs ae ak ?_;intro Pg o43 Ie)|refine .z (zix ae ak) ?_
    refine .o (.store hs rfl rfl ak ?_ cZ (Ce (by simp;omega)) (Ab _ _ _));intro w hs;refine .nil (nB (nT ?_));rw [Em _ (fun c=>if c<j+1∧k≠c then free else 0) hj 1000000000 (fun c _=>by
     by_cases e:c=j
     ·subst e;rw [if_pos rfl,if_pos ⟨aj,aj⟩]
     ·rw [if_neg e];congr 1;apply propext;omega)] at hs
    exact .mk ⟨rfl,hs⟩
   ·refine .skip (nB (nT ?_));rw [tL (g:=fun c=>if c<j+1∧k≠c then free else 0) (fun c _=>by
     by_cases e:c=j
     ·subst e;rw [if_neg aj,if_neg aj]
     ·congr 1;apply propext;omega)] at hs
    exact .mk ⟨rfl,hs⟩
  ·rintro fr w ⟨rfl,hs⟩;rw [tL (g:=wV k) (fun c hc=>by
    unfold wV;by_cases e:k=c
    ·rw [if_neg aj,if_pos e]
    ·rw [if_pos ⟨hc,e⟩,if_neg e])] at hs
   replace hs:=hs.PC (by rw [Fy,Av]);rw [←D7] at hs;exact nB (nT (.mk ⟨rfl,bs++[uI],by simp [Fy],hs⟩))
 ·rintro fr w ⟨rfl,bs,Fy,hs⟩;rw [Nat.sub_self,List.replicate_zero,List.append_nil] at hs;refine nT (.seq (.af (.z (zfa bN) ?_)));first|refine .q hs (eN rfl fJ (hm:=by repeat (first|exact .here|assumption|exact Mem.row aj aj|refine .there ?_|refine Mem.sP ?_)) (hv:=by first|rfl|exact eF aj|exact kE da aj aj|exact iK kC)) ?_|refine .q hs (aQ rfl fJ da) ?_
  refine .z (cH a7) (.zn zm (.for (N:=s.cR.length) (J:=fun k fr w=>fr=[(47,.slice al s.cR.length cl),(4,.slice (some ⟨oz,0,none⟩) n n)]∧∃rs,Sq n rs∧Lx n s.cJ k (gt rs)∧St H w (.blk oz (bs.map (ptr n))::(kX bs rs++(.blk b1 [I s.many,.slice al s.cR.length cl]::σ)))) aj ?_ ?_ ?_))
  ·exact .mk ⟨rfl,_,Kb wV n,J6 s.cJ (fun i j hi hj=>Kc wV hi hj),hs⟩
  ·rintro k fr w hk ⟨rfl,rs,hq,hB,hs⟩;obtain ⟨x,hx⟩:=nth (l:=s.cR) hk;have zy:=hq.1;obtain ⟨⟨xa0,xa1⟩,⟨xb0,xb1⟩,xne,xM,-⟩:=bq.lim x (List.mem_of_getElem? hx);have ha:x.A.toNat<n:=by omega
   have hb:x.B.toNat<n:=by omega
   have hga:=j6 hx;refine .block (.af (.ixX (enc:=Lim.c) hs hl rfl rfl a7 ck hx rfl ?_));intro b51 o51 Q7;refine .q hs (bE (vs:=x.c) rfl ve ck Q7) (.o (.alloc hs jU rfl fun b8 w hs=>?_));refine .o (.aS (vs:=x.c) hs rfl rfl ck fun w hs=>?_);refine .nil (.draw mix rfl hs fun w hs=>?_);refine .zw 0 rfl zm ?_;refine .z 1 rfl (zfa dw) ?_;first|refine .load (i:=2) hs rfl az .none rfl ai ?_ (by repeat (first|exact .here|assumption|exact Mem.row aj aj|refine .there ?_|refine Mem.sP ?_)) (by first|rfl|exact eF aj|exact kE da aj aj|exact iK kC)|refine .r (i:=2) hs rfl az .none (aQ rfl ai da) ?_
   refine .zw 3 rfl (kA (k:=x.A.toNat) rfl rfl aC aL aj ha) ?_;first|refine .load (i:=4) hs rfl az .none rfl an ?_ (by repeat (first|exact .here|assumption|exact Mem.row aj aj|refine .there ?_|refine Mem.sP ?_)) (by first|rfl|exact eF aj|exact kE da aj aj|exact iK kC)|refine .r (i:=4) hs rfl az .none (aQ rfl an da) ?_
   refine .zw 5 rfl (zfa dN) ?_;first|refine .load (i:=6) hs rfl az .none rfl ai ?_ (by repeat (first|exact .here|assumption|exact Mem.row aj aj|refine .there ?_|refine Mem.sP ?_)) (by first|rfl|exact eF aj|exact kE da aj aj|exact iK kC)|refine .r (i:=6) hs rfl az .none (aQ rfl ai da) ?_
   refine .zw 7 rfl zm ?_;refine .z 8 rfl (zfa dw) ?_;first|refine .load (i:=9) hs rfl az .none rfl ai ?_ (by repeat (first|exact .here|assumption|exact Mem.row aj aj|refine .there ?_|refine Mem.sP ?_)) (by first|rfl|exact eF aj|exact kE da aj aj|exact iK kC)|refine .r (i:=9) hs rfl az .none (aQ rfl ai da) ?_
   refine .zw 10 rfl (kA (k:=x.A.toNat) rfl rfl aC aL aj ha) ?_;first|refine .load (i:=11) hs rfl az .none rfl an ?_ (by repeat (first|exact .here|assumption|exact Mem.row aj aj|refine .there ?_|refine Mem.sP ?_)) (by first|rfl|exact eF aj|exact kE da aj aj|exact iK kC)|refine .r (i:=11) hs rfl az .none (aQ rfl an da) ?_
   refine .zw 12 rfl (zfa dN) ?_;first|refine .load (i:=13) hs rfl az .none rfl ai ?_ (by repeat (first|exact .here|assumption|exact Mem.row aj aj|refine .there ?_|refine Mem.sP ?_)) (by first|rfl|exact eF aj|exact kE da aj aj|exact iK kC)|refine .r (i:=13) hs rfl az .none (aQ rfl ai da) ?_
   refine .zw 14 rfl (kA (k:=x.B.toNat) rfl rfl ae ak aj hb) ?_;first|refine .load (i:=15) hs rfl az .none rfl ai ?_ (by repeat (first|exact .here|assumption|exact Mem.row aj aj|refine .there ?_|refine Mem.sP ?_)) (by first|rfl|exact eF aj|exact kE da aj aj|exact iK kC)|refine .r (i:=15) hs rfl az .none (aQ rfl ai da) ?_
   refine .zw 16 rfl (zfa eX) ?_;first|refine .load (i:=17) hs rfl az .none rfl ai ?_ (by repeat (first|exact .here|assumption|exact Mem.row aj aj|refine .there ?_|refine Mem.sP ?_)) (by first|rfl|exact eF aj|exact kE da aj aj|exact iK kC)|refine .r (i:=17) hs rfl az .none (aQ rfl ai da) ?_
   refine .zw 18 rfl Gy (.zw 19 rfl (kA (k:=x.B.toNat) rfl rfl ae ak aj hb) (.ET 20 hs ?_));refine .store hs rfl rfl ak ?_ (.there (.there (Upd.row _ aj aj))) (Ce (by rw [hq.2 _ ha];exact hb)) (Ab _ _ _);intro w hs;exact .go (.DT hs (nB (nT (.mk ⟨rfl,_,hq.set ha _,by rw [JM hq ha hb];exact hB.step HW hga,hs.tail⟩))))
  ·rintro fr w ⟨rfl,rs,hq,hB,hs⟩;rw [←dY] at hB;have hI:=hB.go HW SS;have HZ:∀x∈s.cJ,-20000≤x.c∧x.c≤20000:=fun x hx=>by have:=HW x hx;omega
   refine nT (.seq (.af (.z zm (.z (cH aC) (.zn zm (.for (N:=n) (J:=fun m fr w=>fr=[(4,.slice (some ⟨oz,0,none⟩) n n)]∧∃rs,Sq n rs∧(m<n→yB n s.cJ m (fun _ _=>False) (gt rs))∧(m=n→kD n s.cJ (gt rs))∧St H w (.blk oz (bs.map (ptr n))::(kX bs rs++(.blk b1 [I s.many,.slice al s.cR.length cl]::σ)))) aj ?_ ?_ ?_))))))
   ·exact .mk ⟨rfl,rs,hq,fun _=>hI,fun e=>by omega,hs⟩
   ·clear hI hB hq;rintro m fr w hm ⟨rfl,rs,hq,hI,-,hs⟩;replace hI:=hI hm;refine .block (.af (.z zm (.zn zg (.af (.z zm (.z (cH aC) (.zn zm (.for (N:=n) (J:=fun i fr w=>fr=[(9,I (m:Int)),(76,I (m:Int)),(75,I (n:Int)),(4,.slice (some ⟨oz,0,none⟩) n n)]∧∃rs,Sq n rs∧yB n s.cJ m (fun a _=>a<i) (gt rs)∧St H w (.blk oz (bs.map (ptr n))::(kX bs rs++(.blk b1 [I s.many,.slice al s.cR.length cl]::σ)))) aj ?_ ?_ ?_))))))))
    ·exact .mk ⟨rfl,rs,hq,hI.skip HZ hm (P:=fun _ _=>False) (fun i j h=>by omega) (fun _ _ _ _ h=>h.elim),hs⟩
    ·clear hI hq;rintro i fr w hi ⟨rfl,rs,hq,hI,hs⟩;refine .block (.af (.z zm (.zn zg (.af (.z zm (.z (cH aC) (.zn zm (.for (N:=n) (J:=fun k fr w=>fr=[(10,I (i:Int)),(81,I (i:Int)),(80,I (n:Int)),(9,I (m:Int)),(76,I (m:Int)),(75,I (n:Int)),(4,.slice (some ⟨oz,0,none⟩) n n)]∧∃rs,Sq n rs∧yB n s.cJ m (fun a b=>a<i∨(a=i∧b<k)) (gt rs)∧St H w (.blk oz (bs.map (ptr n))::(kX bs rs++(.blk b1 [I s.many,.slice al s.cR.length cl]::σ)))) aj ?_ ?_ ?_))))))))
     ·exact .mk ⟨rfl,rs,hq,hI.skip HZ hm (P:=fun _ _=>False) (fun a b h=>by omega) (fun _ _ _ _ h=>h.elim),hs⟩
     ·clear hI hq;rintro k fr w hk ⟨rfl,rs,hq,hI,hs⟩;have zy:=hq.1;have c1:=hI.cl i m hi hm;have c2:=hI.cl m k hm hk;have u1:=hI.up i m hi hm;have u2:=hI.up m k hm hk;refine .block (.af (.z zm (.zn zg (.af (.z zm (.z zm ?_))))));first|(refine .ixw hs aC aL ?_;intro b91 o91 hc91)|refine .z (zix aC aL) ?_
      first|refine .q hs (eN rfl an (hm:=by repeat (first|exact .here|assumption|exact Mem.row aj aj|refine .there ?_|refine Mem.sP ?_)) (hv:=by first|rfl|exact eF aj|exact kE da aj aj|exact iK kC)) ?_|refine .q hs (aQ rfl an da) ?_
      refine .z zm ?_;first|(refine .ixv hs ae ak ?_;intro b94 o94 hc94)|refine .z (zix ae ak) ?_
      first|refine .q hs (eN rfl ai (hm:=by repeat (first|exact .here|assumption|exact Mem.row aj aj|refine .there ?_|refine Mem.sP ?_)) (hv:=by first|rfl|exact eF aj|exact kE da aj aj|exact iK kC)) ?_|refine .q hs (aQ rfl ai da) ?_
      refine .z gL (.z zm (.F9 (t':=97) rfl (fun Ii=>?_) (fun Ii=>?_)))
      ·refine .T (.z zm (.T (.z zm (.T ?_))));first|(refine .ixw hs aC aL ?_;intro Sk o100 zG)|refine .z (zix aC aL) ?_
       refine .T ?_;first|refine .q hs (eN rfl an (hm:=by repeat (first|exact .here|assumption|exact Mem.row aj aj|refine .there ?_|refine Mem.sP ?_)) (hv:=by first|rfl|exact eF aj|exact kE da aj aj|exact iK kC)) ?_|refine .q hs (aQ rfl an da) ?_
       refine .T (.z zm (.T ?_));first|(refine .ixv hs ae ak ?_;intro b103 o103 Tj)|refine .z (zix ae ak) ?_
       refine .T ?_;first|refine .q hs (eN rfl ai (hm:=by repeat (first|exact .here|assumption|exact Mem.row aj aj|refine .there ?_|refine Mem.sP ?_)) (hv:=by first|rfl|exact eF aj|exact kE da aj aj|exact iK kC)) ?_|refine .q hs (aQ rfl ai da) ?_
       refine .T (.z gL (.zn zpT (.gU rfl (fun zF=>?_) (fun zF=>?_))))
       ·refine .draw mix rfl hs fun w hs=>?_
        replace u1:=u1 Ii;replace u2:=u2 zF;refine .zw 0 rfl zm ?_;refine .z 1 rfl zm ?_;first|(refine .ixw 2 rfl hs aC aL ?_;intro b109 o109 JE)|refine .z 2 rfl (zix aC aL) ?_
        first|refine .load (i:=3) hs rfl az .none rfl an ?_ (by repeat (first|exact .here|assumption|exact Mem.row aj aj|refine .there ?_|refine Mem.sP ?_)) (by first|rfl|exact eF aj|exact kE da aj aj|exact iK kC)|refine .r (i:=3) hs rfl az .none (aQ rfl an da) ?_
        refine .zw 4 rfl zm ?_;refine .z 5 rfl zm ?_;refine .z 6 rfl zm ?_;first|(refine .ixw 7 rfl hs aC aL ?_;intro b114 o114 Th)|refine .z 7 rfl (zix aC aL) ?_
        first|refine .load (i:=8) hs rfl az .none rfl an ?_ (by repeat (first|exact .here|assumption|exact Mem.row aj aj|refine .there ?_|refine Mem.sP ?_)) (by first|rfl|exact eF aj|exact kE da aj aj|exact iK kC)|refine .r (i:=8) hs rfl az .none (aQ rfl an da) ?_
        refine .zw 9 rfl zm ?_;first|(refine .ixv 10 rfl hs ae ak ?_;intro b117 o117 Tf)|refine .z 10 rfl (zix ae ak) ?_
        first|refine .load (i:=11) hs rfl az .none rfl ai ?_ (by repeat (first|exact .here|assumption|exact Mem.row aj aj|refine .there ?_|refine Mem.sP ?_)) (by first|rfl|exact eF aj|exact kE da aj aj|exact iK kC)|refine .r (i:=11) hs rfl az .none (aQ rfl ai da) ?_
        refine .zw 12 rfl zm ?_;refine .z 13 rfl zm ?_;first|(refine .ixw 14 rfl hs aC aL ?_;intro b121 o121 Te)|refine .z 14 rfl (zix aC aL) ?_
        first|refine .load (i:=15) hs rfl az .none rfl an ?_ (by repeat (first|exact .here|assumption|exact Mem.row aj aj|refine .there ?_|refine Mem.sP ?_)) (by first|rfl|exact eF aj|exact kE da aj aj|exact iK kC)|refine .r (i:=15) hs rfl az .none (aQ rfl an da) ?_
        refine .zw 16 rfl zm ?_;first|(refine .ixv 17 rfl hs ae ak ?_;intro b124 o124 Tc)|refine .z 17 rfl (zix ae ak) ?_
        first|refine .load (i:=18) hs rfl az .none rfl ai ?_ (by repeat (first|exact .here|assumption|exact Mem.row aj aj|refine .there ?_|refine Mem.sP ?_)) (by first|rfl|exact eF aj|exact kE da aj aj|exact iK kC)|refine .r (i:=18) hs rfl az .none (aQ rfl ai da) ?_
        refine .zw 19 rfl zm ?_;refine .z 20 rfl zm ?_;first|(refine .ixw 21 rfl hs aC aL ?_;intro Sf o128 NR)|refine .z 21 rfl (zix aC aL) ?_
        first|refine .load (i:=22) hs rfl az .none rfl an ?_ (by repeat (first|exact .here|assumption|exact Mem.row aj aj|refine .there ?_|refine Mem.sP ?_)) (by first|rfl|exact eF aj|exact kE da aj aj|exact iK kC)|refine .r (i:=22) hs rfl az .none (aQ rfl an da) ?_
        refine .zw 23 rfl zm ?_;first|(refine .ixv 24 rfl hs ae ak ?_;intro b131 o131 Tb)|refine .z 24 rfl (zix ae ak) ?_
        first|refine .load (i:=25) hs rfl az .none rfl ai ?_ (by repeat (first|exact .here|assumption|exact Mem.row aj aj|refine .there ?_|refine Mem.sP ?_)) (by first|rfl|exact eF aj|exact kE da aj aj|exact iK kC)|refine .r (i:=25) hs rfl az .none (aQ rfl ai da) ?_
        refine .zw 26 rfl cP ?_;refine .z 27 rfl Gy ?_;refine .z 28 rfl LH ?_;first|(refine .ixv 29 rfl hs ae ak ?_;intro Sd o136 Ta)|refine .z 29 rfl (zix ae ak) ?_
        refine .ET 30 hs ?_;refine .store hs rfl rfl ak ?_ (.there (Upd.row _ aj aj)) (Ce (by rw [hq.2 _ hi];exact hk)) (Ab _ _ _);intro w hs;exact .go (.DT hs (nB (nT (.mk ⟨rfl,_,hq.set hi _,by rw [JM hq hi hk];exact hI.step HZ hm hi hk (fun a b h=>by omega) Ii zF,hs⟩))))
       ·exact .skip (nB (nT (.mk ⟨rfl,rs,hq,hI.skip HZ hm (P:=fun a b=>a=i∧b=k) (fun a b h=>by omega) (fun a b _ _ h=>by obtain ⟨rfl,rfl⟩:=h;exact .inr zF),hs⟩)))
      ·exact .Fs 8 8 true (.zn zpF (.cF (.skip (nB (nT (.mk ⟨rfl,rs,hq,hI.skip HZ hm (P:=fun a b=>a=i∧b=k) (fun a b h=>by omega) (fun a b _ _ h=>by obtain ⟨rfl,rfl⟩:=h;exact .inl Ii),hs⟩))))))
     ·rintro fr w ⟨rfl,rs,hq,hI,hs⟩;exact nB (nT (.mk ⟨rfl,rs,hq,hI.skip HZ hm (P:=fun a b=>a=i∧n≤b) (fun a b h=>by omega) (fun a b _ hb h=>by omega),hs⟩))
    ·rintro fr w ⟨rfl,rs,hq,hI,hs⟩;replace hI:yB n s.cJ m (fun _ _=>True) (gt rs):=hI.skip HZ hm (P:=fun a _=>n≤a) (fun a b h=>by omega) (fun a b ha _ h=>by omega);exact nB (nT (.mk ⟨rfl,rs,hq,fun h=>hI.next HZ h HO,fun h=>hI.done HZ h.symm HO,hs⟩))
   ·rintro fr w ⟨rfl,rs,hq,-,hT,hs⟩;replace hT:=hT rfl;refine nT (.af (.z zm (.zn zg (.ret (Fin.bw results151 rfl ?_)))));obtain ⟨H1,g1,g2,hs⟩:=w7 hq Fy aj hs;exact ⟨H1,rs,g1,g2,hq,hT,hs.tail⟩
theorem sx{w:World}{vm:Value}{rs:List (List Int)}{n:Nat}(hs:St H w σ)(hM:RT H vm rs)(hq:Sq n rs)(hn:n≤1000):
  TN 152 [vm] w fun v w'=>∃b,v= .bool b∧(b=true↔∀i,i<n→¬gt rs i i<0)∧St H w' σ:=by
 obtain ⟨a,c,rfl⟩:=hM.shape;have zy:=hq.1;refine Cl.o func152 ntmps152 ag1 ?_;refine .af (.zn zg (.seq (.af (.z zm (.z (cH aC) (.zn zm (.for (N:=rs.length) (J:=fun k fr w=>fr=[(0,.slice a rs.length c)]∧(∀i,i<k→¬gt rs i i<0)∧St H w σ) aj ?_ ?_ ?_)))))))
 ·exact .mk ⟨rfl,fun i h=>by omega,hs⟩
 ·rintro k fr w hk ⟨rfl,h0,hs⟩;refine .block (.af (.z zm (.zn zg (.af (.z zm (.z zm (.ixT hs hM rfl rfl aC aL hk rfl ?_)))))));intro Dv o11 a11 c11 uo Iq;refine .q hs (aQ rfl an uo) (.z zm (.ixY hs Iq rfl rfl ae ak (bJ (l:=gr rs k) (i:=k) (by rw [hq.2 k aj];omega)) rfl ?_));intro vQ o14 gY;refine .q hs (aQ rfl ai gY) (.zn iG (.cu rfl (fun dX=>?_) (fun dX=>?_)))
  ·exact .af (.zn zg (.ret (rB (rT (rB (rT (Fin.bw results152 rfl ⟨false,rfl,⟨fun h=>(by cases h),fun h=>(h k aj dX).elim⟩,hs⟩)))))))
  ·refine .skip (nB (nT ?_));exact .mk ⟨rfl,fun i hi=>by
    by_cases e:i=k
    ·subst e;exact dX
    ·exact h0 i aj,hs⟩
 ·rintro fr w ⟨rfl,h0,hs⟩;exact nT (.af (.zn zg (.ret (Fin.bw results152 rfl ⟨true,rfl,⟨fun _ i hi=>h0 i aj,fun _=>rfl⟩,hs⟩))))
theorem iA{p:Prop}[Decidable p]:(!decide p)=true↔¬p:=by simp
theorem gy{p:Prop}[Decidable p]:(!decide p)=false↔p:=by simp
theorem eh{w:World}(hs:St H w σ):TN 228 [I a0,I a1,I a2] w fun v w'=>v= .bool (decide (a1≤a0∧a0≤a2))∧St H w' σ:=by
 refine Cl.o func228 ntmps228 ag3 ?_;refine .af (.zn zg (.af (.z zm (.z zm (.z pE (.z zm (.lI (t':=10) rfl (fun m6=>?_) (fun m6=>?_))))))))
 ·exact .T (.z zm (.T (.z zm (.T (.z pE (.z zpT (.zn zg (.ret (Fin.bw results228 rfl ⟨by simp [*],hs.out⟩)))))))))
 ·exact .Fs 3 3 true (.z zpF (.zn zg (.ret (Fin.bw results228 rfl ⟨by simp [*],hs.out⟩))))
theorem mN{w:World}{many:Int}{l:Lim}(hs:St H w σ):TN 229 [I many,.agg l.c.toArray] w fun v w'=>v=I (if decide (0≤many∧many≤64)&&l.ok many then 0 else 20)∧St H w' σ:=by
 refine Cl.o func229 ntmps229 ag2 ?_;refine .af (.bx hs fun b3 w hs=>?_);refine .zn zg (.seq (.af (.z zm (.o (.call call228 rfl (eh hs) ?_)))));rintro _ w ⟨rfl,hs⟩;refine .z iW (.z zm (.bif (t':=8) rfl (fun JF=>?_) (fun JF=>?_)))
 ·refine .Fs 5 3 false (.z zpT (.z zm (.Fs 5 10 false (.z zpT (.z zm (.Fs 5 17 false (.z zpT (.z zm (.Fs 4 24 false (.z zpT (.z zm (.Fs 4 30 false (.zn zpT (.cT (.af (.zn zg (.ret (rT (Fin.bw yG rfl ?_)))))))))))))))))))
  (try simp only [iA] at*)
  (try simp only [gy] at*)
  refine ⟨congrArg I ?_,hs.out⟩;unfold Lim.ok;first
   |(rw [if_pos (by simp only [Bool.and_eq_true,decide_eq_true_eq];omega)];done)
   |(rw [if_neg (by simp only [Bool.and_eq_true,decide_eq_true_eq];omega)];done)
 ·refine .T (.z (zfa dw) (.T (.y hs (zld ai) (.T (.z zm (.T (.o (.call call228 rfl (eh hs) ?_))))))));rintro _ w ⟨rfl,hs⟩;refine .T (.z iW (.z zpF (.z zm (.bif (t':=15) rfl (fun zH=>?_) (fun zH=>?_)))))
  ·refine .Fs 5 10 false (.z zpT (.z zm (.Fs 5 17 false (.z zpT (.z zm (.Fs 4 24 false (.z zpT (.z zm (.Fs 4 30 false (.zn zpT (.cT (.af (.zn zg (.ret (rT (Fin.bw yG rfl ?_))))))))))))))))
   (try simp only [iA] at*)
   (try simp only [gy] at*)
   refine ⟨congrArg I ?_,hs.out⟩;unfold Lim.ok;first
    |(rw [if_pos (by simp only [Bool.and_eq_true,decide_eq_true_eq];omega)];done)
    |(rw [if_neg (by simp only [Bool.and_eq_true,decide_eq_true_eq];omega)];done)
  ·refine .T (.z (zfa dN) (.T (.y hs (zld ai) (.T (.z zm (.T (.o (.call call228 rfl (eh hs) ?_))))))));rintro _ w ⟨rfl,hs⟩;refine .T (.z iW (.z zpF (.z zm (.bif (t':=22) rfl (fun La=>?_) (fun La=>?_)))))
   ·refine .Fs 5 17 false (.z zpT (.z zm (.Fs 4 24 false (.z zpT (.z zm (.Fs 4 30 false (.zn zpT (.cT (.af (.zn zg (.ret (rT (Fin.bw yG rfl ?_)))))))))))))
    (try simp only [iA] at*)
    (try simp only [gy] at*)
    refine ⟨congrArg I ?_,hs.out⟩;unfold Lim.ok;first
     |(rw [if_pos (by simp only [Bool.and_eq_true,decide_eq_true_eq];omega)];done)
     |(rw [if_neg (by simp only [Bool.and_eq_true,decide_eq_true_eq];omega)];done)
   ·refine .T (.z (zfa dw) (.T (.y hs (zld ai) (.T (.z (zfa dN) (.T (.y hs (zld ai) (.T (.z gQ (.z zpF (.z zm (.lI (t':=29) rfl (fun Rp=>?_) (fun Rp=>?_)))))))))))))
    ·refine .Fs 4 24 false (.z zpT (.z zm (.Fs 4 30 false (.zn zpT (.cT (.af (.zn zg (.ret (rT (Fin.bw yG rfl ?_))))))))))
     (try simp only [iA] at*)
     (try simp only [gy] at*)
     refine ⟨congrArg I ?_,hs.out⟩;unfold Lim.ok;first
      |(rw [if_pos (by simp only [Bool.and_eq_true,decide_eq_true_eq];omega)];done)
      |(rw [if_neg (by simp only [Bool.and_eq_true,decide_eq_true_eq];omega)];done)
    ·refine .T (.z (zfa eX) (.T (.y hs (zld ai) (.T (.o (.call call228 rfl (eh hs) ?_))))));rintro _ w ⟨rfl,hs⟩;refine .T (.z iW (.z zpF (.z zm (.bif (t':=35) rfl (fun A3=>?_) (fun A3=>?_)))))
     ·refine .Fs 4 30 false (.zn zpT (.cT (.af (.zn zg (.ret (rT (Fin.bw yG rfl ?_)))))))
      (try simp only [iA] at*)
      (try simp only [gy] at*)
      refine ⟨congrArg I ?_,hs.out⟩;unfold Lim.ok;first
       |(rw [if_pos (by simp only [Bool.and_eq_true,decide_eq_true_eq];omega)];done)
       |(rw [if_neg (by simp only [Bool.and_eq_true,decide_eq_true_eq];omega)];done)
     ·refine .T (.z (zfa ot) (.T (.y hs (zld ai) (.T (.o (.call call228 rfl (eh hs) ?_))))));rintro _ w ⟨rfl,hs⟩;refine .T (.z iW (.zn zpF (.cond rfl (fun rA=>?_) (fun rA=>?_))))
      ·refine .af (.zn zg (.ret (rT (Fin.bw yG rfl ?_))))
       (try simp only [iA] at*)
       (try simp only [gy] at*)
       refine ⟨congrArg I ?_,hs.out⟩;unfold Lim.ok;first
        |(rw [if_pos (by simp only [Bool.and_eq_true,decide_eq_true_eq];omega)];done)
        |(rw [if_neg (by simp only [Bool.and_eq_true,decide_eq_true_eq];omega)];done)
      ·refine .skip (nT (.af (.zn zg (.ret (Fin.bw yG rfl ?_)))))
       (try simp only [iA] at*)
       (try simp only [gy] at*)
       refine ⟨congrArg I ?_,hs.out⟩;unfold Lim.ok;first
        |(rw [if_pos (by simp only [Bool.and_eq_true,decide_eq_true_eq];omega)];done)
        |(rw [if_neg (by simp only [Bool.and_eq_true,decide_eq_true_eq];omega)];done)
theorem sy{w:World}{v:Value}{s:dd}(hs:St H w σ)(hr:RSy H v s):TN 150 [v] w fun v w'=>v=I s.check∧St H w' σ:=by
 obtain ⟨u,rfl,hr⟩:=hr;obtain ⟨a,c,rfl⟩:=RL.shape hr;have hlen:=(RS.len (RS.PE hr (Nat.le_refl _) (sL:=s.cR.length))).2.2;refine Cl.o func150 ntmps150 ag1 ?_;refine .af (.bx hs fun b1 w hs=>?_);refine .zn zg (.seq (.af (.z (zfa bH) (.y hs (zld ai) (.o (.call call228 rfl (eh hs) ?_))))));rintro _ w ⟨rfl,hs⟩;refine .zn iW (.cond rfl (fun DR=>?_) (fun DR=>?_))
 ·exact .af (.zn zg (.ret (rT (Fin.bw results150 rfl ⟨congrArg I (by unfold dd.check;rw [if_pos (by simp at DR;omega)]),hs.out⟩))))
 ·refine .skip (nT (.seq (.af (.z (zfa bN) (.y hs (zld fJ) (.z (cH a7) (.zn uS (.cu rfl (fun kB=>?_) (fun kB=>?_)))))))))
  ·exact .af (.zn zg (.ret (rT (Fin.bw results150 rfl ⟨congrArg I (by unfold dd.check;rw [if_neg (by simpa using DR),if_pos aj]),hs.out⟩))))
  ·refine .skip (nT (.seq (.af (.z (zfa bN) (.y hs (zld fJ) (.z (cH a7) (.zn zm (.for (N:=s.cR.length) (J:=fun k fr w=>fr=[(14,.slice a s.cR.length c),(1,Pt b1)]∧(∀j<k,∀l,s.cR[j]? =some l→l.ok s.many=true)∧St H w (.blk b1 [I s.many,.slice a s.cR.length c]::σ)) aj ?_ ?_ ?_))))))))
   ·exact .mk ⟨rfl,fun j hj=>by omega,hs⟩
   ·rintro k fr w hk ⟨rfl,iI,hs⟩;obtain ⟨x,hx⟩:=nth (l:=s.cR) hk;refine .block (.af (.ixX (enc:=Lim.c) hs hr rfl rfl a7 ck hx rfl ?_));intro rN o18 qe;refine .q hs (bE (vs:=x.c) rfl ve ck qe) (.o (.alloc hs jU rfl fun b4 w hs=>?_));refine .o (.aS (vs:=x.c) hs rfl rfl ck fun w hs=>?_);refine .nil (.af (.z (zfa bH) (.y hs (zld ai) (.q hs (gw (vs:=x.c) rfl ve ck) (.o (.call call229 rfl (mN hs) ?_))))));rintro _ w ⟨rfl,hs⟩;have Js:0≤s.many∧s.many≤64:=by simpa using DR
    rw [show (decide (0≤s.many∧s.many≤64)&&x.ok s.many)=x.ok s.many by rw [decide_eq_true Js];rfl];refine .zn gL (.gU rfl (fun rE=>?_) (fun rE=>?_))
    ·refine .af (.zn zg (.ret (rB (rT (rB (rT (Fin.bw results150 rfl ?_)))))));exact ⟨congrArg I (by
      have BP:x.ok s.many=false:=by cases e:x.ok s.many with|false=>rfl|true=>rw [e] at rE;simp at rE
      unfold dd.check;rw [if_neg (by simpa using DR),if_neg aj,if_pos (List.any_eq_true.2 ⟨x,List.mem_of_getElem? hx,by rw [BP];rfl⟩)]),hs.out⟩
    ·exact .skip (nB (nT (.mk ⟨rfl,gq iI hx (by cases e:x.ok s.many with|true=>rfl|false=>rw [e] at rE;simp at rE),hs.tail⟩)))
   ·rintro fr w ⟨rfl,iI,hs⟩;refine nT (.af (.zn zg (.ret (Fin.bw results150 rfl ?_))));exact ⟨congrArg I (by
     have uv:(s.cR.any fun l=> !l.ok s.many)=false:=by
      simp only [List.any_eq_false,Bool.not_eq_true',Bool.not_eq_false];intro l hl;obtain ⟨j,hj⟩:=List.getElem?_of_mem hl;exact iI j (List.getElem?_eq_some_iff.1 hj).1 l hj
     unfold dd.check;rw [if_neg (by simpa using DR),if_neg aj,uv];rfl),hs.out⟩
theorem mc{w:World}{va vb:Value}{A B:List Int}(hs:St H w σ)(hA:RI H va A)(hB:RI H vb B):
  TN 233 [va,vb] w fun v w'=>v= .bool (decide (A=B))∧St H w' σ:=by
 obtain ⟨aA,cA,rfl⟩:=RI.shape hA;obtain ⟨aB,cB,rfl⟩:=RI.shape hB;have hlA:=(RI.len hA).2.2;have hlB:=(RI.len hB).2.2;refine Cl.o func233 ntmps233 ag2 ?_;refine .af (.zn zg (.seq (.af (.z zm (.z (cH ae) (.z zm (.z (cH ae) (.zn gL (.gU rfl (fun sH=>?_) (fun sH=>?_))))))))))
 ·exact .af (.zn zg (.ret (rT (Fin.bw results233 rfl ⟨by rw [decide_eq_false (by intro h;subst h;exact sH rfl)],hs⟩))))
 ·refine .skip (nT (.seq (.af (.z zm (.z (cH ae) (.zn zm (.for (N:=A.length) (J:=fun k fr w=>fr=[(0,.slice aA A.length cA),(1,.slice aB B.length cB)]∧(∀j<k,A[j]? =B[j]?)∧St H w σ) aj ?_ ?_ ?_)))))))
  ·exact .mk ⟨rfl,fun j h=>by omega,hs⟩
  ·rintro k fr w hk ⟨rfl,h0,hs⟩;obtain ⟨xA,P0⟩:=nth hk;obtain ⟨xB,OO⟩:=nth (l:=B) (k:=k) aj;refine .block (.af (.z zm (.zn zg (.seq (.draw mix rfl hs fun w hs=>?_)))));refine .zw 0 rfl zm ?_;refine .z 1 rfl zm ?_;refine .ixX (enc:=fun x=>[I x]) (i:=2) hs rfl az .none hA rfl rfl ae ak P0 rfl ?_;intro rN o18 qe;replace qe:=bB.one qe;refine .r (i:=3) hs rfl az .none (aQ rfl ai qe) ?_;refine .zw 4 rfl zm ?_;refine .z 5 rfl zm ?_;refine .ixX (enc:=fun x=>[I x]) (i:=6) hs rfl az .none hB rfl rfl ae ak OO rfl ?_;intro Ma o22 km;replace km:=bB.one km;refine .r (i:=7) hs rfl az .none (aQ rfl ai km) ?_;refine .zw 8 rfl gL ?_;refine .D hs ?_;refine (.gU rfl (fun rE=>?_) (fun rE=>?_))
   ·exact .af (.zn zg (.ret (rB (rT (rB (rT (Fin.bw results233 rfl ⟨by rw [decide_eq_false (by intro h;subst h;rw [P0] at OO;cases OO;exact rE rfl)],hs⟩)))))))
   ·refine .skip (nB (nT ?_));exact .mk ⟨rfl,fun j hj=>by
     by_cases e:j=k
     ·subst e;rw [P0,OO,rE]
     ·exact h0 j aj,hs⟩
  ·rintro fr w ⟨rfl,h0,hs⟩;refine nT (.af (.zn zg (.ret (Fin.bw results233 rfl ?_))));exact ⟨by rw [decide_eq_true (List.ext_getElem? fun j=>by
    by_cases e:j<A.length
    ·exact h0 j e
    ·rw [List.getElem?_eq_none aj,List.getElem?_eq_none aj])],hs⟩
theorem kH{w:World}{v:Value}(hs:St H w (en::σ))(ho:bG 1 v (Is l) en)(hl:l.length≤1000000):
  TN 137 [v] w fun _ w'=>∃iT,bG 1 v (Is l.reverse) iT∧St H w' (iT::σ):=by
 rcases ho with ⟨a,rfl,h2,rfl⟩|⟨b,len,cap,sp,rfl,rfl,h2,h3,h4⟩
 ·obtain rfl:l=[]:=by
   have:=congrArg List.length h2;exact List.length_eq_zero_iff.1 (by simpa using this)
  have hs:=hs.tail;refine Cl.o func137 ntmps137 ag1 ?_;refine .af (.z zm (.z (cH ae) (.z jc (.z zg (.zn zg (.block (.loop (fun _:Unit=>⟨28,[],[(2,I 0),(3,I (-1))]⟩) (fun _ w=>St H w σ) (fun _=>0) () bk hs ?_)))))));rintro _ w hs;refine .seq (.af (.z zm (.z zm (.zn iG (.cu rfl (fun pC=>?_) (fun pC=>?_))))))
  ·omega
  ·exact .exit (xT (xT (xB (Fin.uX results137 ⟨.nul,.nil 1 a,hs.nul⟩))))
 obtain rfl:len=l.length:=by simpa using h2.symm
 refine Cl.o func137 ntmps137 ag1 ?_;refine .af (.z zm (.z (cH ae) (.z jc (.z zg (.zn zg (.block (.loop (fun p:Nat×List Int=>⟨28,[],[(2,I p.1),(3,I ((l.length:Int) - 1 - p.1)),(0,.slice (some ⟨b,0,none⟩) l.length cap)]⟩) (fun p w=>(2*p.1≤l.length+1∧nt l p.2 p.1)∧St H w (.blk b (Is p.2++sp)::σ)) (fun p=>l.length - p.1) (0,l) (.cons rfl (.dI rfl bj (.cons rfl (.nil rfl rfl)))) ⟨⟨bj,.start l⟩,hs⟩ ?_)))))));rintro ⟨i,L⟩ w ⟨⟨h5,h6⟩,hs⟩;dsimp only at h5 h6 hs ⊢;have hL:=h6.1;refine .seq (.af (.z zm (.z zm (.zn iG (.cu rfl (fun pC=>?_) (fun pC=>?_))))))
 ·refine .skip (nT (.seq (.block (.draw mix rfl hs fun w hs=>?_))));refine .zw 0 rfl zm ?_;refine .z 1 rfl zm ?_;refine .z 2 rfl zm ?_;refine .z 3 rfl zm ?_;refine .z 4 rfl zm ?_;refine .z 5 rfl zm ?_;refine .zw 6 rfl (kA (k:=l.length - 1 - i) rfl rfl ae ak aj aj) (.load (i:=7) hs rfl az .none rfl ai ?_ (hv:=fG aj sp));refine .zw 8 rfl zm ?_;refine .z 9 rfl zm ?_;first|(refine .ixv 10 rfl hs ae ak ?_;intro Sa o24 rE)|refine .z 10 rfl (zix ae ak) ?_
  refine .load (i:=11) hs rfl az .none rfl ai ?_ (hv:=fG aj sp);first|(refine .ixv 12 rfl hs ae ak ?_;intro R9 o26 iJ)|refine .z 12 rfl (zix ae ak) ?_
  refine .E 13 hs ?_;refine .store hs rfl rfl ak ?_ cZ (by simp;omega) (lL aj sp _);intro w hs;refine .go (.zw 14 rfl (kA (k:=l.length - 1 - i) rfl rfl ae ak aj aj) (.E 15 hs ?_));refine .store hs rfl rfl ak ?_ cZ (by simp;omega) (lL (by simp;omega) sp _);intro w hs;exact .go (.D hs (nB (nT (.region (.z zm (.z cP (.z zm (.z jc (.z zg (.zn zg (nT ⟨(i+1,_),.cons rfl (.dI rfl (by push_cast;omega) (.cons rfl (.nil rfl rfl))),⟨⟨by dsimp only;omega,h6.step aj⟩,hs⟩,by dsimp only;omega⟩)))))))))))
 ·refine .exit (xT (xT (xB ?_)));rw [h6.done aj] at hs;exact Fin.uX results137 ⟨_,.inr ⟨b,l.length,cap,sp,rfl,rfl,bj,by rw [←h3];simp,h4⟩,hs⟩
inductive Mc(s:dd)(xs:List Int):Int→Prop
 |bad (h:s.check≠0) (h1:xs=[]):Mc s xs s.check
 |sound (h:s.Ok) (h1:s.Sound) (h2:xs=[]):Mc s xs 0
 |chain {st:BS} {x:Arc} {z k:Nat} (h:s.Ok) (h1:¬s.Sound) (h2:Ov s.n s.cJ st (some x)) (h3:z=oN st.by_ x.t (s.n+1)) (h4:1≤k) (h5:k≤s.n) (h6:oN st.by_ z k=z) (h7:xs=(xG st.by_ z k).reverse):Mc s xs 0
theorem Mc.Ee{s:dd}(h:Mc s xs 0):xs=[]↔s.Sound:=by
 generalize hz:(0:Int)=y at h
 cases h with
 |bad h=>exact (h hz.symm).elim
 |sound _ h1 h2=>exact ⟨fun _=>h1,fun _=>h2⟩
 | @chain st x z k _ h1 _ _ h4 _ _ h7=>exact ⟨fun h=>by
   have:=congrArg List.length (h7.symm.trans h);rw [List.length_reverse,mU] at this;simp at this;omega,fun h=>(h1 h).elim⟩
set_option maxHeartbeats 4000000 in
theorem sN{w:World}{v:Value}{s:dd}(hs:St H w σ)(hr:RSy H v s):
  TN 178 [v] w fun u w'=>∃H1 vx xs e,HLe H H1∧u= .tuple #[vx,I e]∧RI H1 vx xs∧Mc s xs e∧St H1 w' σ:=by
 obtain ⟨u,rfl,hr⟩:=hr;obtain ⟨al,cl,rfl⟩:=RL.shape hr;refine Cl.o func178 ntmps178 ag1 ?_;refine .af (.bx hs fun b1 w hs=>?_);refine .z zg (.zn zg (.seq (.af (.y hs (zls [_,_] dp bF) (.o (.call call113 rfl (jQ (s:=s) hs ⟨_,rfl,hr⟩) ?_))))));rintro _ w ⟨rfl,hs⟩;refine .zn zg (.af (.z zm (.zn gL (.gU rfl (fun gY=>?_) (fun gY=>?_)))))
 ·exact .af (.z zm (.z zg (.zn zg (.ret (rT (Fin.oe results178 rfl rfl ⟨H,_,[],_,HLe.refl H,rfl,RS.nil H 1 none 0,.bad gY rfl,hs.out⟩))))))
 ·refine .skip (nT (.seq (.draw mix rfl hs fun w hs=>?_)));refine .zw 0 rfl (zfa bH) ?_;refine .y 1 rfl hs ai ?_;refine .ys 2 rfl hs [_,_] dp bF ?_;refine .E 3 hs ?_;have bq:s.Ok:=s.eO.1 (by simpa using gY);have p6:=bq.cJ;have hn:s.n=s.many.toNat+1:=rfl;have BQ:=bq.m0;have Ju:=bq.m1;refine .call call209 rfl (jO (s:=s) hs bq ⟨_,rfl,hr⟩) ?_;rintro _ w ⟨H1,ib,aq,rfl,oh,hs⟩;refine .go (.E 4 hs ?_);have Jr:=kS (N:=s.many.toNat) hs aj (by rw [←hn];exact p6) oh call242;rw [Int.toNat_of_nonneg BQ] at Jr;refine .call call208 rfl Jr ?_;rintro _ w ⟨H2,bc,bb,st,ov,vo,aW,rfl,DM,LN,hs⟩;obtain ⟨a',rfl,JG⟩:=DM.ptr;refine .go (.zw 5 rfl zm ?_);refine .z 6 rfl zex ?_;refine .z 7 rfl zex ?_;refine .z 8 rfl zex ?_;refine .z 9 rfl zg ?_;refine .z 10 rfl zg ?_;refine .z 11 rfl zg ?_;refine .D hs ?_;refine .seq (.af (.z zm (.q hs (wz rfl rfl runUnderlying297) (.nil (.cond rfl (fun iJ=>?_) (fun iJ=>?_))))))
  ·refine .af (.z zg (.zn zg (.ret (rT (Fin.oe results178 rfl rfl ?_)))));exact ⟨H2,_,[],0,aq.trans aW,rfl,RS.nil H2 1 none 0,.sound bq (by
    obtain ⟨r,Gt,xI⟩:=LN
    cases ov with
    |none=>exact ⟨_,(Gt.sol (by rw [←hn];exact p6) aj).1⟩
    |some x=>rw [JG] at iJ;cases iJ) rfl,hs.out⟩
  ·refine .skip (nT (.af (.z zm ?_)));obtain ⟨x,rfl⟩:=OvR.yes JG iJ;obtain ⟨b3,e3,oZ⟩:=DM;cases e3
   have M7:cellAt H2 b3 1=some (I x.t):=oZ.at 1;have OW:s.many+2=((s.many.toNat+2:Nat):Int):=by omega
   have hns:¬s.Sound:=by
    obtain ⟨r,Gt,xI⟩:=LN;exact Gt.none (by rw [←hn];exact p6) aj (by have:=xI bj;omega)
   obtain ⟨DN,Qm,Jh⟩:st.by_.length=s.many.toNat+1∧(∀v<s.many.toNat+1,(ga st.by_ v).f<s.many.toNat+1)∧x.t<s.many.toNat+1:=by
    obtain ⟨r,Gt,xI⟩:=LN;exact ⟨Gt.lb,fun v hv=>(Gt.rg v hv).1,(p6.2 x (Gt.ovm x rfl)).2.1⟩
   have Gr:=fun k=>xp Qm Jh k
   refine .z znc (.z (zfa cI) (.q hs (aQ rfl ai M7) (.zn zg (.seq (.af (.z (zfa bH) (.y hs (zld ai) (.z cP ?_))))))));rw [OW];refine .zn zm (.for (N:=s.many.toNat+2) (J:=fun k fr w=>fr=[(8,I (oN st.by_ x.t k)),(6,.slice (some ⟨bb,0,none⟩) (s.many.toNat+1) (s.many.toNat+1))]∧St H2 w (.blk bc (Is st.cost):: .blk bb (iU st.by_):: .blk b1 [I s.many,.slice al s.cR.length cl]::σ)) aj ?_ ?_ ?_)
   ·exact .mk ⟨rfl,hs⟩
   ·rintro k fr w hk ⟨rfl,hs⟩;refine .block (.region (.z zm (.z zm (.q hs (wy (k:=oN st.by_ x.t k) rfl rfl au aM rfl (Gr k)) (.z (zfa cj) (.q hs (eN rfl ai (.there .here) (qB (j:=0) (by rw [DN];exact Gr k) e7)) ?_))))));exact .zn zg (nB (nT (.mk ⟨rfl,hs.out⟩)))
   ·rintro fr w ⟨rfl,hs⟩;obtain ⟨pd,Nb,Jq,SR⟩:=CR Qm Jh (m:=s.many.toNat+2) aj;have PW:=Gr (s.many.toNat+2);generalize hz:oN st.by_ x.t (s.many.toNat+2)=z at SR PW ⊢;have Jg:=fun k=>xp Qm PW k
    refine nT (.af (.zn zg (.seq (.af (.z zm (.zn zg (.block ?_)))))));refine .loop (fun p:Nat×Value=>⟨62,[],[(9,p.2),(8,I (oN st.by_ z p.1)),(10,I z),(6,.slice (some ⟨bb,0,none⟩) (s.many.toNat+1) (s.many.toNat+1))]⟩)
     (fun p w=>p.1<pd∧∃en,bG 1 p.2 (Is (xG st.by_ z p.1)) en∧St H2 w (en:: .blk bc (Is st.cost):: .blk bb (iU st.by_):: .blk b1 [I s.many,.slice al s.cR.length cl]::σ))
     (fun p=>pd - p.1) (0,.slice none 0 0) bk
     ⟨aj,_,.nil 1 none,hs.nul⟩ ?_
    rintro ⟨k,v9⟩ w ⟨hk,en,hO,hs⟩;dsimp only at hk hO ⊢;refine .block (.af (.z zm (.z zm (.z zm (.q hs (wy (k:=oN st.by_ z k) rfl rfl au aM rfl (Jg k)) (.z (zfa df) (.q hs (eN rfl ai (.there (.there .here)) (qB (j:=3) (by rw [DN];exact Jg k) e7)) ?_)))))));refine .o (.buildSlice (cells:=[_]) hs bL rfl rfl fun R6 w hs=>?_);refine .o (.append (ys:=[I (ga st.by_ (oN st.by_ z k)).l]) hs bM rfl rfl hO (.own .here rfl rfl) (by simp [Value.oneCell']) (fun l' h=>by simp [xG] at h;omega) ?_);intro v50 en50 w eH hs;refine .zn zg (.af (.z zm (.z zm (.q hs (wy (k:=oN st.by_ z k) rfl rfl au aM rfl (Jg k)) (.z (zfa cj) (.q hs (eN rfl ai (by repeat (first|exact .here|refine .there ?_)) (qB (j:=0) (by rw [DN];exact Jg k) e7)) ?_))))));refine .zn zg (.af (.z zm (.z zm (.zn gQ (.cu rfl (fun vK=>?_) (fun vK=>?_))))))
    ·refine .exit (xN (xT (xB (nT (.af (.z zm ?_))))));have jy:bG 1 v50 (Is (xG st.by_ z (k+1))) en50:=by rw [wD];simpa [Is] using eH
     have hkz:oN st.by_ z (k+1)=z:=by
      have h3:((ga st.by_ (oN st.by_ z k)).f:Int)=z:=by simpa using vK
      show (ga st.by_ (oN st.by_ z k)).f=z;omega
     refine .o (.call call137 rfl (kH hs jy (by rw [mU];omega)) ?_);rintro _ w ⟨iT,uW,hs⟩;refine .nil (.af (.z zm (.z zg (.zn zg (.ret (Fin.oe results178 rfl rfl ?_))))));obtain ⟨H3,bO,hRI,hs⟩:=bG.bU uW (by rw [List.length_reverse,mU];omega) hs .here;exact ⟨H3,_,_,0,aq.trans (aW.trans bO),rfl,hRI,.chain bq hns (by rw [hn];exact LN) (by rw [hn];exact hz.symm) aj aj hkz rfl,hs.sb⟩
    ·refine .skip (nB (nT ?_));exact ⟨(k+1,v50),bk,⟨by
      dsimp only;have:k+1≠pd:=fun e=>vK (congrArg (Nat.cast:Nat→Int) (show oN st.by_ z (k+1)=z by rw [e];exact SR))
      omega,en50,by rw [wD];simpa [Is] using eH,hs.sb⟩,by dsimp only;omega⟩
structure Gh(s:dd)(x:List Int):Prop where
 len:x.length=s.n
 zero:gi x 0=0
 free:∀v<s.n,-1000000000≤gi x v∧gi x v≤1000000000
 Bf:gP s.cJ (gi x)
theorem me{w:World}{v:Value}{s:dd}(hs:St H w σ)(hr:RSy H v s):
  TN 80 [v] w fun u w'=>∃H1 vt e,HLe H H1∧u= .tuple #[vt,I e]∧((s.check≠0∧e=s.check∧vt= .slice none 0 0)∨(s.Ok∧¬s.Sound∧e=23∧vt= .slice none 0 0)∨(s.Ok∧s.Sound∧e=0∧∃rs,RT H1 vt rs∧Sq s.n rs∧kD s.n s.cJ (gt rs)))∧St H1 w' σ:=by
 obtain ⟨ul,rfl,hl⟩:=hr;obtain ⟨al,cl,rfl⟩:=RL.shape hl;refine Cl.o func80 ntmps80 ag1 ?_;refine .af (.bx hs fun b1 w hs=>?_);refine .z zg (.zn zg (.af (.y hs (zls [_,_] dp bF) (.o (.call call150 rfl (sy (s:=s) hs ⟨_,rfl,hl⟩) ?_)))));rintro _ w ⟨rfl,hs⟩;refine .zn zg (.seq (.af (.z zm (.zn gL (.gU rfl (fun pC=>?_) (fun pC=>?_))))))
 ·exact .af (.z zm (.z zg (.zn zg (.ret (rT (Fin.oe results80 rfl rfl ⟨H,_,_,HLe.refl H,rfl,.inl ⟨pC,rfl,rfl⟩,hs.out⟩))))))
 ·refine .skip (nT (.af (.y hs (zls [_,_] dp bF) ?_)));have bq:s.Ok:=s.eO.1 (by simpa using pC);have Ju:=bq.m1;refine .o (.call call151 rfl (tH (s:=s) hs ⟨_,rfl,hl⟩ bq) ?_);rintro v12 w ⟨H1,rs,aq,Dg,L3,N2,hs⟩;obtain ⟨at',ct,rfl⟩:=Dg.shape;refine .zn zg (.seq (.af (.z zm (.o (.call call152 rfl (sx hs Dg L3 (by simp only [dd.n];omega)) ?_)))));rintro _ w ⟨b,rfl,hb,hs⟩;have LY:=hb.trans (Cz bq N2).symm;refine .zn iW (.cond rfl (fun um=>?_) (fun um=>?_))
  ·exact .af (.z zg (.zn zg (.ret (rT (Fin.oe results80 rfl rfl ⟨H1,_,_,aq,rfl,.inr (.inl ⟨bq,fun h=>by simp [LY.2 h] at um,rfl,rfl⟩),hs.out⟩)))))
  ·exact .skip (nT (.af (.z zm (.z zg (.zn zg (.ret (Fin.oe results80 rfl rfl ⟨H1,_,_,aq,rfl,.inr (.inr ⟨bq,LY.1 (by simpa using um),rfl,rs,Dg,L3,N2⟩),hs.out⟩)))))))
inductive Px(s:dd)(x:List Int):Int→Prop
 |bad (h:s.check≠0):Px s x s.check
 |off (h:s.Ok) (h1:¬Gh s x):Px s x 25
 |ok (h:s.Ok) (h1:Gh s x):Px s x 0
theorem yo{w:World}{v:Value}{ls:List Int}{cap:List Value}{q:Int→Prop}(hs:St H w σ)(hr:RI H v ls)
  (hc:∀args w,(callFunc g args).run Tryz.prog w= .ok (.enter g args) w) (hp:∀w l,St H w σ→TN g ([I l]++cap) w fun u w'=>∃b,u= .bool b∧(b=true↔q l)∧St H w' σ):
  TN 159 [v,.func (.func g) #[] cap.toArray] w fun u w'=>∃i,u=I i∧(0≤i↔∃p∈ls,q p)∧St H w' σ:=by
 obtain ⟨a,c,rfl⟩:=RI.shape hr;have hl:=(RI.len hr).2.2;refine Cl.o func159 ntmps159 ag2 ?_;refine .af (.zn zg (.seq (.af (.z zm (.z (cH ae) (.zn zm (.for (N:=ls.length) (J:=fun k fr w=>fr=[(1,.func (.func g) #[] cap.toArray),(0,.slice a ls.length c)]∧St H w σ∧∀j<k,∀l,ls[j]? =some l→¬q l) aj ?_ ?_ ?_)))))))
 ·exact .mk ⟨rfl,hs,fun j hj=>by omega⟩
 ·rintro k fr w hk ⟨rfl,hs,iI⟩;obtain ⟨l,hl⟩:=nth hk;refine .block (.af (.z zm (.zn zg (.af (.z zm (.z zm (.z zm ?_)))))));first|(refine .ixv hs ae ak ?_;intro vQ o14 gY)|refine .z (zix ae ak) ?_
  refine .y hs (zld ai) (.o (.nm (first:=[]) rfl rfl hc (hp _ _ hs) ?_));rintro _ w ⟨oz,rfl,o8,hs⟩;refine .nil (.cond rfl (fun dX=>?_) (fun dX=>?_))
  ·exact .af (.z zm (.zn zg (.ret (rB (rT (rB (rT (Fin.bw results159 rfl ⟨_,rfl,⟨fun _=>⟨l,List.mem_of_getElem? hl,o8.1 dX⟩,fun _=>by omega⟩,hs⟩))))))))
  ·exact .skip (nB (nT (.mk ⟨rfl,hs,gq iI hl (fun h=>by rw [o8.2 h] at dX;cases dX)⟩)))
 ·rintro fr w ⟨rfl,hs,iI⟩;refine nT (.af (.zn zg (.ret (Fin.bw results159 rfl ?_))));exact ⟨_,rfl,⟨fun h=>by omega,fun ⟨p,h1,h2⟩=>by
   obtain ⟨j,hj⟩:=List.getElem?_of_mem h1;exact (iI j (List.getElem?_eq_some_iff.1 hj).1 p hj h2).elim⟩,hs⟩
theorem sS{w:World}{v:Value}{ls:List Int}{cap:List Value}{q:Int→Prop}(hs:St H w σ)(hr:RI H v ls)
  (hc:∀args w,(callFunc g args).run Tryz.prog w= .ok (.enter g args) w) (hp:∀w l,St H w σ→TN g ([I l]++cap) w fun u w'=>∃b,u= .bool b∧(b=true↔q l)∧St H w' σ):
  TN 89 [v,.func (.func g) #[] cap.toArray] w fun u w'=>∃b,u= .bool b∧(b=true↔∃p∈ls,q p)∧St H w' σ:=by
 refine Cl.o func89 ntmps89 ag2 ?_;refine .af (.zn zg (.af (.z zm (.z zm (.o (.call call159 rfl (yo hs hr hc hp) ?_))))));rintro _ w ⟨i,rfl,hi,hs⟩;exact .z Bq (.zn zg (.ret (Fin.bw results89 rfl ⟨_,rfl,by simp only [decide_eq_true_eq];exact hi,hs⟩)))
theorem qt{w:World}{n:Int}(hs:St H w σ):TN 114 [I n] w fun v w'=>∃b,v= .bool b∧(b=true↔¬(-1000000000≤n∧n≤1000000000))∧St H w' σ:=by
 refine Cl.o func114 ntmps114 ag1 ?_;refine .af (.zn zg (.af (.z zm (.o (.call call115 rfl (eo hs) ?_)))));rintro _ w ⟨rfl,hs⟩;exact .z iW (.zn zg (.ret (Fin.bw results114 rfl ⟨_,rfl,by simp;omega,hs⟩)))
theorem np{w:World}{v:Value}{s:dd}(hs:St H w σ)(hr:RSy H v s)(hx:RI H vx x):
  TN 55 [v,vx] w fun u w'=>∃e,u=I e∧Px s x e∧St H w' σ:=by
 obtain ⟨ul,rfl,hl⟩:=hr;obtain ⟨al,cl,rfl⟩:=RL.shape hl;obtain ⟨ax,cx,rfl⟩:=RI.shape hx;refine Cl.o func55 ntmps55 ag2 ?_;refine .af (.bx hs fun b2 w hs=>?_);refine .zn zg (.seq (.af (.y hs (zls [_,_] dp bF) (.o (.call call113 rfl (jQ (s:=s) hs ⟨_,rfl,hl⟩) ?_)))));rintro _ w ⟨rfl,hs⟩;refine .zn zg (.af (.z zm (.zn gL ?_)))
 skip
 refine (.gU rfl (fun uo=>?_) (fun uo=>?_))
 ·exact .af (.z zm (.zn zg (.ret (rT (Fin.bw OD rfl ⟨_,rfl,.bad uo,hs.out⟩)))))
 ·refine .skip (nT (.seq (.af ?_)));have bq:s.Ok:=s.eO.1 (by simpa using uo);have BQ:=bq.m0;have Ju:=bq.m1;have vI:=bq.len;have Fc:(s.n:Int)=s.many+1:=by simp only [dd.n];omega
  refine .z zm (.z (cH ae) (.z (zfa bH) (.y hs (zld ai) (.z cP (.z gL (.z zm (.F9 (t':=19) rfl (fun FB=>?_) (fun FB=>?_))))))))
  ·refine .Fs 4 6 false (.z zpT (.z zm (.Fs 2 12 false (.zn zpT (.cT (.af (.zn zg (.ret (rT (Fin.bw OD rfl ?_))))))))));first
    |exact ⟨_,rfl,.ok bq ⟨aj,by first|omega|(simpa using uu),fun v hv=>mW v aj,fE.2 fun y hy=>by
      obtain ⟨i,hi⟩:=List.getElem?_of_mem hy;exact h1 i (List.getElem?_eq_some_iff.1 hi).1 y hi⟩,hs.out⟩
    |exact ⟨_,rfl,.off bq (fun h=>by have:=h.len;omega),hs.out⟩
    |exact ⟨_,rfl,.off bq (fun h=>by have:=h.zero;first|omega|(simp at uu;omega)),hs.out⟩
    |exact ⟨_,rfl,.off bq (fun h=>by
      obtain ⟨p,h1,h2⟩:=qf.1 jw;obtain ⟨i,hi⟩:=List.getElem?_of_mem h1;have vJ:=(List.getElem?_eq_some_iff.1 hi).1;have:=bJ vJ;rw [hi] at this;cases this
      exact h2 (h.free i (by have:=h.len;omega))),hs.out⟩
    |exact ⟨_,rfl,.off bq (fun h=>by
      have h8:=fE.1 h.Bf y (List.mem_of_getElem? hy);omega),hs.out⟩
  ·refine .T (.z zm (.T (.ixX (enc:=fun x=>[I x]) hs hx rfl rfl ae ak (bJ (l:=x) (i:=0) aj) rfl ?_)));intro Ps o21 sG;replace sG:=bB.one sG;refine .T (.y hs (zld ai) (.T (.z gL (.z zpF (.z zm (.F9 (t':=25) rfl (fun uu=>?_) (fun uu=>?_)))))))
   ·refine .Fs 2 12 false (.zn zpT (.cT (.af (.zn zg (.ret (rT (Fin.bw OD rfl ?_)))))));first
     |exact ⟨_,rfl,.ok bq ⟨aj,by first|omega|(simpa using uu),fun v hv=>mW v aj,fE.2 fun y hy=>by
       obtain ⟨i,hi⟩:=List.getElem?_of_mem hy;exact h1 i (List.getElem?_eq_some_iff.1 hi).1 y hi⟩,hs.out⟩
     |exact ⟨_,rfl,.off bq (fun h=>by have:=h.len;omega),hs.out⟩
     |exact ⟨_,rfl,.off bq (fun h=>by have:=h.zero;first|omega|(simp at uu;omega)),hs.out⟩
     |exact ⟨_,rfl,.off bq (fun h=>by
       obtain ⟨p,h1,h2⟩:=qf.1 jw;obtain ⟨i,hi⟩:=List.getElem?_of_mem h1;have vJ:=(List.getElem?_eq_some_iff.1 hi).1;have:=bJ vJ;rw [hi] at this;cases this
       exact h2 (h.free i (by have:=h.len;omega))),hs.out⟩
     |exact ⟨_,rfl,.off bq (fun h=>by
       have h8:=fE.1 h.Bf y (List.mem_of_getElem? hy);omega),hs.out⟩
   ·refine .T (.z zm (.T (.o (.call call89 rfl (sS (q:=fun n=>¬(-1000000000≤n∧n≤1000000000)) (cap:=[]) hs hx call114 (fun w n hs=>qt hs)) ?_))));rintro _ w ⟨wN,rfl,qf,hs⟩;refine .zn zpF (.cond rfl (fun jw=>?_) (fun jw=>?_))
    ·refine .af (.zn zg (.ret (rT (Fin.bw OD rfl ?_))));first
      |exact ⟨_,rfl,.ok bq ⟨aj,by first|omega|(simpa using uu),fun v hv=>mW v aj,fE.2 fun y hy=>by
        obtain ⟨i,hi⟩:=List.getElem?_of_mem hy;exact h1 i (List.getElem?_eq_some_iff.1 hi).1 y hi⟩,hs.out⟩
      |exact ⟨_,rfl,.off bq (fun h=>by have:=h.len;omega),hs.out⟩
      |exact ⟨_,rfl,.off bq (fun h=>by have:=h.zero;first|omega|(simp at uu;omega)),hs.out⟩
      |exact ⟨_,rfl,.off bq (fun h=>by
        obtain ⟨p,h1,h2⟩:=qf.1 jw;obtain ⟨i,hi⟩:=List.getElem?_of_mem h1;have vJ:=(List.getElem?_eq_some_iff.1 hi).1;have:=bJ vJ;rw [hi] at this;cases this
        exact h2 (h.free i (by have:=h.len;omega))),hs.out⟩
      |exact ⟨_,rfl,.off bq (fun h=>by
        have h8:=fE.1 h.Bf y (List.mem_of_getElem? hy);omega),hs.out⟩
    ·refine .skip (nT (.seq (.af (.z (zfa bN) (.y hs (zld fJ) (.z (cH a7) (.zn zm (.for (N:=s.cR.length) (J:=fun k fr w=>fr=[(30,.slice al s.cR.length cl),(1,.slice ax x.length cx)]∧(∀i<k,∀y,s.cR[i]? =some y→gi x y.B.toNat≤gi x y.A.toNat+y.M)∧St H w (.blk b2 [I s.many,.slice al s.cR.length cl]::σ)) aj ?_ ?_ ?_))))))))
     ·exact .mk ⟨rfl,fun i hi=>by omega,hs⟩
     ·have mW:∀v<x.length,-1000000000≤gi x v∧gi x v≤1000000000:=fun v hv=>by
       apply Classical.byContradiction;intro h;have:=qf.2 ⟨gi x v,List.mem_of_getElem? (bJ hv),h⟩;subst this;simp at jw
      rintro k fr w hk ⟨rfl,h1,hs⟩;obtain ⟨y,hy⟩:=nth hk;obtain ⟨⟨y1,y2⟩,⟨y3,y4⟩,y5,y6,-⟩:=bq.lim y (List.mem_of_getElem? hy);have z1:=mW y.B.toNat aj;have z2:=mW y.A.toNat aj;refine .block (.af (.ixX (enc:=Lim.c) hs hl rfl rfl a7 ck hy rfl ?_));intro Oq o34 nM;refine .q hs (bE (vs:=y.c) rfl ve ck nM) (.o (.alloc hs jU rfl fun b7 w hs=>?_));refine .o (.aS (vs:=y.c) hs rfl rfl ck fun w hs=>?_);refine .nil (.seq (.draw mix rfl hs fun w hs=>?_));refine .zw 0 rfl zm ?_;refine .z 1 rfl (zfa dN) ?_;refine .y 2 rfl hs ai ?_;refine .ixX (enc:=fun x=>[I x]) (i:=3) hs rfl az .none hx rfl rfl ae ak (bJ (l:=x) (i:=y.B.toNat) aj) aj ?_;intro Pk o39 mY;replace mY:=bB.one mY;refine .r (i:=4) hs rfl az .none (aQ rfl ai mY) ?_;refine .zw 5 rfl zm ?_;refine .z 6 rfl (zfa dw) ?_;refine .y 7 rfl hs ai ?_;refine .ixX (enc:=fun x=>[I x]) (i:=8) hs rfl az .none hx rfl rfl ae ak (bJ (l:=x) (i:=y.A.toNat) aj) aj ?_;intro b44 o44 zD;replace zD:=bB.one zD;refine .r (i:=9) hs rfl az .none (aQ rfl ai zD) ?_;refine .zw 10 rfl jc ?_;refine .z 11 rfl (zfa eX) ?_;refine .y 12 rfl hs ai ?_;refine .z 13 rfl uS ?_;refine .D hs ?_;refine (.cu rfl (fun vL=>?_) (fun vL=>?_))
      ·refine .af (.zn zg (.ret (rB (rT (rB (rT (Fin.bw OD rfl ?_)))))));first
        |exact ⟨_,rfl,.ok bq ⟨aj,by first|omega|(simpa using uu),fun v hv=>mW v aj,fE.2 fun y hy=>by
          obtain ⟨i,hi⟩:=List.getElem?_of_mem hy;exact h1 i (List.getElem?_eq_some_iff.1 hi).1 y hi⟩,hs.out⟩
        |exact ⟨_,rfl,.off bq (fun h=>by have:=h.len;omega),hs.out⟩
        |exact ⟨_,rfl,.off bq (fun h=>by have:=h.zero;first|omega|(simp at uu;omega)),hs.out⟩
        |exact ⟨_,rfl,.off bq (fun h=>by
          obtain ⟨p,h1,h2⟩:=qf.1 jw;obtain ⟨i,hi⟩:=List.getElem?_of_mem h1;have vJ:=(List.getElem?_eq_some_iff.1 hi).1;have:=bJ vJ;rw [hi] at this;cases this
          exact h2 (h.free i (by have:=h.len;omega))),hs.out⟩
        |exact ⟨_,rfl,.off bq (fun h=>by
          have h8:=fE.1 h.Bf y (List.mem_of_getElem? hy);omega),hs.out⟩
      ·refine .skip (nB (nT ?_));exact .mk ⟨rfl,fun i hi z hz=>by
        by_cases e:i=k
        ·subst e;rw [hy] at hz;cases hz;omega
        ·exact h1 i aj z hz,hs.out⟩
     ·have mW:∀v<x.length,-1000000000≤gi x v∧gi x v≤1000000000:=fun v hv=>by
       apply Classical.byContradiction;intro h;have:=qf.2 ⟨gi x v,List.mem_of_getElem? (bJ hv),h⟩;subst this;simp at jw
      rintro fr w ⟨rfl,h1,hs⟩;refine nT (.af (.zn zg (.ret (Fin.bw OD rfl ?_))));first
       |exact ⟨_,rfl,.ok bq ⟨aj,by first|omega|(simpa using uu),fun v hv=>mW v aj,fE.2 fun y hy=>by
         obtain ⟨i,hi⟩:=List.getElem?_of_mem hy;exact h1 i (List.getElem?_eq_some_iff.1 hi).1 y hi⟩,hs.out⟩
       |exact ⟨_,rfl,.off bq (fun h=>by have:=h.len;omega),hs.out⟩
       |exact ⟨_,rfl,.off bq (fun h=>by have:=h.zero;first|omega|(simp at uu;omega)),hs.out⟩
       |exact ⟨_,rfl,.off bq (fun h=>by
         obtain ⟨p,h1,h2⟩:=qf.1 jw;obtain ⟨i,hi⟩:=List.getElem?_of_mem h1;have vJ:=(List.getElem?_eq_some_iff.1 hi).1;have:=bJ vJ;rw [hi] at this;cases this
         exact h2 (h.free i (by have:=h.len;omega))),hs.out⟩
       |exact ⟨_,rfl,.off bq (fun h=>by
         have h8:=fE.1 h.Bf y (List.mem_of_getElem? hy);omega),hs.out⟩
end Go.Proofs.YtlgfjghdgbhkhaaGreat
namespace Go.Proofs
open Go.Shelf
def Tryz.AQ:Go.Shelf.Ren:=⟨fun|189=>142|125=>214|257=>213|128=>255|129=>256|294=>246|295=>247|296=>248|297=>249|298=>250|299=>251|216=>252|300=>253|301=>254|328=>278|329=>279|330=>280|331=>281|332=>282|215=>175|343=>292|n=>n,fun|28=>22|3=>3|46=>306|0=>0|51=>341|53=>343|4=>4|183=>335|182=>334|131=>213|5=>5|9=>9|218=>359|222=>363|228=>375|229=>318|n=>n,fun|n=>n⟩
theorem Tryz.EV:Go.Proofs.Lays.n189 Tryz.prog Tryz.AQ:={
 mixed:=by kernel_rfl
 f125:=Tryz.func214.trans (congrArg some (by kernel_rfl))
 f128:=Tryz.func255.trans (congrArg some (by kernel_rfl))
 f129:=Tryz.func256.trans (congrArg some (by kernel_rfl))
 f189:=Tryz.func142.trans (congrArg some (by kernel_rfl))
 f215:=Tryz.func175.trans (congrArg some (by kernel_rfl))
 f216:=Tryz.func252.trans (congrArg some (by kernel_rfl))
 f257:=Tryz.func213.trans (congrArg some (by kernel_rfl))
 f294:=Tryz.func246.trans (congrArg some (by kernel_rfl))
 f295:=Tryz.func247.trans (congrArg some (by kernel_rfl))
 f296:=Tryz.func248.trans (congrArg some (by kernel_rfl))
 f297:=Tryz.func249.trans (congrArg some (by kernel_rfl))
 f298:=Tryz.func250.trans (congrArg some (by kernel_rfl))
 f299:=Tryz.func251.trans (congrArg some (by kernel_rfl))
 f300:=Tryz.func253.trans (congrArg some (by kernel_rfl))
 f301:=Tryz.func254.trans (congrArg some (by kernel_rfl))
 f328:=Tryz.func278.trans (congrArg some (by kernel_rfl))
 f329:=Tryz.func279.trans (congrArg some (by kernel_rfl))
 f330:=Tryz.func280.trans (congrArg some (by kernel_rfl))
 f331:=Tryz.func281.trans (congrArg some (by kernel_rfl))
 f332:=Tryz.func282.trans (congrArg some (by kernel_rfl))
 f343:=Tryz.func292.trans (congrArg some (by kernel_rfl))
 t0:=Tryz.underlying0
 a0:=Tryz.isAgg0
 z0:=Tryz.sizeOf0
 v0:=Tryz.zeroValue0
 t3:=Tryz.underlying3
 a3:=Tryz.isAgg3
 z3:=Tryz.sizeOf3
 v3:=Tryz.zeroValue3
 t4:=Tryz.underlying4
 a4:=Tryz.isAgg4
 z4:=Tryz.sizeOf4
 v4:=Tryz.zeroValue4
 t5:=Tryz.underlying5
 a5:=Tryz.isAgg5
 z5:=Tryz.sizeOf5
 v5:=Tryz.zeroValue5
 t9:=Tryz.underlying9
 a9:=Tryz.isAgg9
 z9:=Tryz.sizeOf9
 v9:=Tryz.zeroValue9
 t28:=Tryz.underlying22
 a28:=Tryz.isAgg22
 z28:=Tryz.sizeOf22
 v28:=Tryz.zeroValue22
 t46:=Tryz.underlying306
 a46:=Tryz.isAgg306
 z46:=Tryz.sizeOf306
 v46:=Tryz.zeroValue306
 t51:=Tryz.underlying341
 a51:=Tryz.isAgg341
 z51:=Tryz.sizeOf341
 v51:=Tryz.zeroValue341
 t53:=Tryz.underlying343
 a53:=Tryz.isAgg343
 z53:=Tryz.sizeOf343
 v53:=Tryz.zeroValue343
 t131:=Tryz.underlying213
 a131:=Tryz.isAgg213
 z131:=Tryz.sizeOf213
 v131:=Tryz.zeroValue213
 t182:=Tryz.underlying334
 a182:=Tryz.isAgg334
 z182:=Tryz.sizeOf334
 v182:=Tryz.zeroValue334
 t183:=Tryz.underlying335
 a183:=Tryz.isAgg335
 z183:=Tryz.sizeOf335
 v183:=Tryz.zeroValue335
 t218:=Tryz.underlying359
 a218:=Tryz.isAgg359
 z218:=Tryz.sizeOf359
 v218:=Tryz.zeroValue359
 t222:=Tryz.underlying363
 a222:=Tryz.isAgg363
 z222:=Tryz.sizeOf363
 v222:=Tryz.zeroValue363
 t228:=Tryz.underlying375
 a228:=Tryz.isAgg375
 z228:=Tryz.sizeOf375
 v228:=Tryz.zeroValue375
 t229:=Tryz.underlying318
 a229:=Tryz.isAgg318
 z229:=Tryz.sizeOf318
 v229:=Tryz.zeroValue318}
def Tryz.ze:Go.Shelf.Ren:=⟨fun|20=>143|n=>n,fun|22=>22|3=>3|4=>4|0=>0|n=>n,fun|n=>n⟩
theorem Tryz.BL:Go.Proofs.Lays2.n20 Tryz.prog Tryz.ze:={
 mixed:=by kernel_rfl
 f20:=Tryz.func143.trans (congrArg some (by kernel_rfl))
 t0:=Tryz.underlying0
 a0:=Tryz.isAgg0
 z0:=Tryz.sizeOf0
 v0:=Tryz.zeroValue0
 t3:=Tryz.underlying3
 a3:=Tryz.isAgg3
 z3:=Tryz.sizeOf3
 v3:=Tryz.zeroValue3
 t4:=Tryz.underlying4
 a4:=Tryz.isAgg4
 z4:=Tryz.sizeOf4
 v4:=Tryz.zeroValue4
 t22:=Tryz.underlying22
 a22:=Tryz.isAgg22
 z22:=Tryz.sizeOf22
 v22:=Tryz.zeroValue22
 i3:=by kernel_rfl}
end Go.Proofs
namespace Go.Proofs.YtlgfjghdgbhkhaaGreat
open Go.Sort Go.RowKit
theorem GO(blk off cap:Nat)(zs:List Int)(w:World)(hH:Holds (Value.int .i64) w blk off zs.toArray)(Q9:blk<w.heap.size)(ru:zs.length<4611686018427387904):
  Calls Tryz.prog 142 #[.slice (some ⟨blk,off,none⟩) zs.length cap] w fun e w'=>e= .returned (.tuple #[])∧∃n os,w'=grow (putRow (Value.int .i64) (Sort.ahead w n) blk off (zs.mergeSort fun x y=>decide (x≤y)).toArray) os:=
 Any.slices_Sort_int Tryz.EV blk off cap zs w hH Q9 ru
theorem w9(p:Option Addr)(cap:Nat)(w:World):Calls Tryz.prog 142 #[.slice p 0 cap] w fun e w'=>e= .returned (.tuple #[])∧w'=w:=
 Any.slices_Sort_int_none Tryz.EV p cap w
theorem Aw(blk off cap:Nat)(zs:List Int)(w:World)(hH:Holds (Value.int .i64) w blk off zs.toArray)(ru:zs.length≤9223372036854775807)(mX:zs.length≤cap):
  Calls Tryz.prog 143 #[.slice (some ⟨blk,off,none⟩) zs.length cap] w fun e w'=>e= .returned (.slice (some ⟨blk,off,none⟩) (Lib.compact zs).length cap)∧∃q,w'=putRow (Value.int .i64) (Sort.ahead w q) blk off (Lib.compact zs++List.replicate (zs.length - (Lib.compact zs).length) 0).toArray:=
 Any.slices_Compact_int Tryz.BL blk off cap zs w hH ru mX
theorem sr(p:Option Addr)(cap:Nat)(w:World):Calls Tryz.prog 143 #[.slice p 0 cap] w fun e w'=>e= .returned (.slice p 0 cap)∧w'=w:=
 Any.slices_Compact_int_empty Tryz.BL p cap w
end Go.Proofs.YtlgfjghdgbhkhaaGreat
namespace Go.Proofs.YtlgfjghdgbhkhaaGreat
open Go.MW Tryz
variable{H:bC}{σ:List Ent}{a0 a1 a2 m most a hi lo z1 z2 z3 known fl id number day:Int}{ls:List Lim}{g cap b k b1 bf bt bl cl i bm bc bn:Nat}{s:Spc}{xs lf ws l x X Y sl pk days:List Int}{en:Ent}{ts:List TD}{vl vt vd vp vw vx v1 v2 vr vc d vh vs v5 v4 b' tap dn b2 c2 d2:Value}{sp:List Value}{t:TD}{rows:List (List Int)}{fL:List F5}{fV:List F4}{th:Bool}
theorem tB{w:World}(hs:St H w (.blk b (Is xs++sp)::σ))(hl:xs.length≤17592186044416):
  TN 142 [.slice (some ⟨b,0,none⟩) xs.length cap] w fun u w'=>u= .tuple #[]∧St H w' (.blk b (Is (xs.mergeSort fun x y=>decide (x≤y))++sp)::σ):=
 (GO b 0 cap xs w hs.holds (hs.lt .here) aj).mono fun e w' ⟨he,m,os,hw⟩=>⟨_,he,rfl,by
  rw [hw];exact (hs.putRow (List.length_mergeSort _)).grow os⟩
theorem ss{w:World}{a:Option Addr}(hs:St H w σ):
  TN 142 [.slice a 0 cap] w fun u w'=>u= .tuple #[]∧St H w' σ:=
 (w9 a cap w).mono fun e w' ⟨he,hw⟩=>⟨_,he,rfl,by rw [hw];exact hs⟩
theorem pM{w:World}(hs:St H w (.blk b (Is xs++sp)::σ))(hl:xs.length≤17592186044416)(mX:xs.length≤cap):
  TN 143 [.slice (some ⟨b,0,none⟩) xs.length cap] w fun u w'=>u= .slice (some ⟨b,0,none⟩) (Go.Lib.compact xs).length cap∧St H w' (.blk b (Is (Go.Lib.compact xs)++(Is (List.replicate (xs.length - (Go.Lib.compact xs).length) 0)++sp))::σ):=
 (Aw b 0 cap xs w hs.holds aj mX).mono fun e w' ⟨he,m,hw⟩=>⟨_,he,rfl,by
  rw [hw];have h:=Go.Lib.compact_length_le xs;have:=hs.putRow (m:=m) (ys:=Go.Lib.compact xs++List.replicate (xs.length - (Go.Lib.compact xs).length) 0) (by simp;omega);have e2:Is (Go.Lib.compact xs++List.replicate (xs.length - (Go.Lib.compact xs).length) 0)=Is (Go.Lib.compact xs)++Is (List.replicate (xs.length - (Go.Lib.compact xs).length) 0):=List.map_append;rw [e2,List.append_assoc] at this;exact this⟩
theorem oK{w:World}{a:Option Addr}(hs:St H w σ):
  TN 143 [.slice a 0 cap] w fun u w'=>u= .slice a 0 cap∧St H w' σ:=
 (sr a cap w).mono fun e w' ⟨he,hw⟩=>⟨_,he,rfl,by rw [hw];exact hs⟩
theorem mr{w:World}{v:Value}{cap:List Value}(q:Int→Prop)(hs:St H w σ)(hR:RI H v xs)(hc:∀args w,(callFunc g args).run Tryz.prog w= .ok (.enter g args) w)
  (hp:∀H' w σ (n:Int),n∈xs→HLe H H'→St H' w σ→TN g ([I n]++cap) w fun u w'=>∃H1 b,HLe H' H1∧u= .bool b∧(b=true↔q n)∧St H1 w' σ):
  TN 159 [v,.func (.func g) #[] cap.toArray] w fun u w'=>∃H1 i,HLe H H1∧u=I i∧(0≤i↔∃x∈xs,q x)∧St H1 w' σ:=by
 obtain ⟨a,c,rfl⟩:=RI.shape hR;have hl:=(RI.len hR).2.2;refine Cl.o func159 ntmps159 ag2 ?_;refine .af (.zn zg (.seq (.af (.z zm (.z (cH ae) (.zn zm (.for (N:=xs.length) (J:=fun k fr w=>fr=[(1,.func (.func g) #[] cap.toArray),(0,.slice a xs.length c)]∧∃H1,HLe H H1∧(∀j<k,∀y,xs[j]? =some y→¬q y)∧St H1 w σ) aj ?_ ?_ ?_)))))))
 ·exact .mk ⟨rfl,H,HLe.refl H,fun j hj=>by omega,hs⟩
 ·rintro k fr w hk ⟨rfl,H1,aq,iI,hs⟩;obtain ⟨x,hx⟩:=nth hk;refine .block (.af (.z zm (.zn zg (.af (.z zm (.z zm (.z zm (.ixY hs (hR.mono aq) rfl rfl ae ak hx rfl ?_))))))));intro vQ o14 gY;refine .q hs (aQ rfl ai gY) (.o (.nm (first:=[]) (cap:=cap) rfl rfl hc (hp _ _ _ x (List.mem_of_getElem? hx) aq hs) ?_));rintro _ w ⟨H2,oz,aW,rfl,o8,hs⟩;refine .nil (.cond rfl (fun dX=>?_) (fun dX=>?_))
  ·exact .af (.z zm (.zn zg (.ret (rB (rT (rB (rT (Fin.bw results159 rfl ⟨H2,_,aq.trans aW,rfl,⟨fun _=>⟨x,List.mem_of_getElem? hx,o8.1 dX⟩,fun _=>by omega⟩,hs⟩))))))))
  ·exact .skip (nB (nT (.mk ⟨rfl,H2,aq.trans aW,gq iI hx (fun h=>by rw [o8.2 h] at dX;cases dX),hs⟩)))
 ·rintro fr w ⟨rfl,H1,aq,iI,hs⟩;refine nT (.af (.zn zg (.ret (Fin.bw results159 rfl ?_))));exact ⟨H1,_,aq,rfl,⟨fun h=>by omega,fun ⟨x,h1,h2⟩=>by
   obtain ⟨j,hj⟩:=List.getElem?_of_mem h1;exact (iI j (List.getElem?_eq_some_iff.1 hj).1 x hj h2).elim⟩,hs⟩
theorem kV{w:World}{v:Value}{cap:List Value}(q:Int→Prop)(hs:St H w σ)(hR:RI H v xs)(hc:∀args w,(callFunc g args).run Tryz.prog w= .ok (.enter g args) w)
  (hp:∀H' w σ (n:Int),n∈xs→HLe H H'→St H' w σ→TN g ([I n]++cap) w fun u w'=>∃H1 b,HLe H' H1∧u= .bool b∧(b=true↔q n)∧St H1 w' σ):
  TN 89 [v,.func (.func g) #[] cap.toArray] w fun u w'=>∃H1 b,HLe H H1∧u= .bool b∧(b=true↔∃x∈xs,q x)∧St H1 w' σ:=by
 refine Cl.o func89 ntmps89 ag2 ?_;refine .af (.zn zg (.af (.z zm (.z zm (.o (.call call159 rfl (mr q hs hR hc hp) ?_))))));rintro _ w ⟨H1,i,aq,rfl,hi,hs⟩;exact .z Bq (.zn zg (.ret (Fin.bw results89 rfl ⟨H1,_,aq,rfl,by simp only [decide_eq_true_eq];exact hi,hs⟩)))
theorem oD{w:World}(hs:St H w σ):TN 205 [I a0,I a1,I a2] w fun v w'=>v= .bool (decide (a1≤a0∧a0≤a2))∧St H w' σ:=by
 refine Cl.o func205 ntmps205 ag3 ?_;refine .af (.zn zg (.af (.z zm (.z zm (.z pE (.z zm (.lI (t':=10) rfl (fun m6=>?_) (fun m6=>?_))))))))
 ·exact .T (.z zm (.T (.z zm (.T (.z pE (.z zpT (.zn zg (.ret (Fin.bw results205 rfl ⟨by simp [*],hs.out⟩)))))))))
 ·exact .Fs 3 3 true (.z zpF (.zn zg (.ret (Fin.bw results205 rfl ⟨by simp [*],hs.out⟩))))
theorem gR{w:World}{v:Value}{many:Nat}(hs:St H w σ)(hr:RI H v l):
  TN 133 [v,I many,I most] w fun v w'=>∃b:Bool,v= .bool b∧(b=true↔gl many most l)∧St H w' σ:=by
 obtain ⟨a,c,rfl⟩:=RI.shape hr;have hlen:=(RI.len hr).2.2;refine Cl.o func133 ntmps133 ag3 ?_;refine .af (.zn zg (.seq (.af (.z zm (.z (cH ae) (.z zm (.o (.call call205 rfl (oD hs) ?_))))))));rintro _ w ⟨rfl,hs⟩;refine .z iW (.z zm (.bif (t':=14) rfl (fun Lb=>?_) (fun Lb=>?_)))
 ·exact .Fs 4 5 false (.z zpT (.z zm (.Fs 8 11 false (.zn zpT (.cT (.af (.zn zg (.ret (rT (Fin.bw results133 rfl ⟨false,rfl,⟨fun h=>(by cases h),fun h=>by have:=h.two;have:=h.many;simp at Lb;omega⟩,hs⟩))))))))))
 ·refine .T (.z zm (.T ?_));have KD:2≤l.length∧l.length≤many:=by simp at Lb;omega
  refine .ixY hs hr rfl rfl ae ak (bJ (l:=l) (i:=0) aj) dG ?_;intro oz o16 dX;refine .T (.q hs (aQ rfl ai dX) (.T (.z iG (.z zpF (.z zm (.lI (t':=20) rfl (fun Rq=>?_) (fun Rq=>?_)))))))
  ·exact .Fs 8 11 false (.zn zpT (.cT (.af (.zn zg (.ret (rT (Fin.bw results133 rfl ⟨false,rfl,⟨fun h=>(by cases h),fun h=>by have:=h.low;omega⟩,hs⟩)))))))
  ·refine .T (.z zm (.T (.z zm (.T (.z (cH ae) (.T (.z jc (.T (.ixY hs hr rfl rfl ae ak (bJ (l:=l) (i:=(l.length - 1)) aj) dG ?_)))))))));intro uI o25 jx;refine .T (.q hs (aQ rfl ai jx) (.T (.z zm (.T (.z uS (.zn zpF (.cu rfl (fun Ig=>?_) (fun Ig=>?_))))))))
   ·exact .af (.zn zg (.ret (rT (Fin.bw results133 rfl ⟨false,rfl,⟨fun h=>(by cases h),fun h=>by have:=h.high;omega⟩,hs⟩))))
   ·refine .skip (nT (.seq (.af (.z zm (.q hs (Eo (k:=1) rfl rfl ae ak aj aj) (.z (cH ae) (.zn zm (.for (N:=l.length - 1) (J:=fun k fr w=>fr=[(31,.slice (if c=1 then a else a.map (·.add (1*1))) (l.length - 1) (c - 1)),(0,.slice a l.length c)]∧(∀j<k,gi l j<gi l (j+1))∧St H w σ) aj ?_ ?_ ?_))))))))
    ·exact .mk ⟨rfl,fun j hj=>by omega,hs⟩
    ·rintro k fr w hk ⟨rfl,iI,hs⟩;have ht:=hr.tail (k:=1) aj;have hx:(l.drop 1)[k]? =some (gi l (k+1)):=by rw [List.getElem?_drop,Nat.add_comm];exact bJ aj
     refine .block (.af (.z zm (.ixY hs ht rfl rfl ae ak hx rfl ?_)));intro R8 o36 xK;refine .q hs (aQ rfl ai xK) (.z zg (.zn zg (.af (.z zm (.z zm (.ixY hs hr rfl rfl ae ak (bJ (l:=l) (i:=k) aj) dG ?_))))));intro Oo o40 rA;refine .q hs (aQ rfl ai rA) (.z zm (.zn Bq (.cu rfl (fun Ie=>?_) (fun Ie=>?_))))
     ·exact .af (.zn zg (.ret (rB (rT (rB (rT (Fin.bw results133 rfl ⟨false,rfl,⟨fun h=>(by cases h),fun h=>by have:=h.rise k aj;omega⟩,hs⟩)))))))
     ·refine .skip (nB (nT ?_));exact .mk ⟨rfl,fun j hj=>by
       by_cases e:j=k
       ·subst e;omega
       ·exact iI j aj,hs⟩
    ·rintro fr w ⟨rfl,iI,hs⟩;exact nT (.af (.zn zg (.ret (Fin.bw results133 rfl ⟨true,rfl,⟨fun _=>⟨aj,aj,aj,aj,fun i hi=>iI i aj⟩,fun _=>rfl⟩,hs⟩))))
theorem mn{w:World}{v:Value}(hs:St H w σ)(hr:RI H v l):
  TN 70 [v] w fun v w'=>∃e,v=I e∧((gl 9 100000 l∧e=0)∨(¬gl 9 100000 l∧e≠0))∧St H w' σ:=by
 obtain ⟨a,c,rfl⟩:=RI.shape hr;refine Cl.o func70 ntmps70 ag1 ?_;refine .af (.zn zg (.seq (.af (.z zm (.o (.call call133 rfl (gR (many:=9) (most:=100000) hs hr) ?_))))));rintro _ w ⟨b4,rfl,O7,hs⟩;refine .zn iW (.cond rfl (fun KY=>?_) (fun KY=>?_))
 ·exact .af (.zn zg (.ret (rT (Fin.bw results70 rfl ⟨_,rfl,.inr ⟨fun h=>by simp [O7.2 h] at KY,by decide⟩,hs⟩))))
 ·exact .skip (nT (.af (.zn zg (.ret (Fin.bw results70 rfl ⟨_,rfl,.inl ⟨O7.1 (by simpa using KY),rfl⟩,hs⟩)))))
theorem ic{w:World}{b:Int}(hs:St H w σ)(ha:0<a)(hb:0<b∧b≤100000):
  TN 136 [I a,I b] w fun v w'=>v=I (rat a b)∧St H w' σ:=by
 have h1:0≤b.tdiv a:=Int.tdiv_nonneg aj aj;have h2:b.tdiv a≤b:=by rw [Int.tdiv_eq_ediv_of_nonneg aj];exact Int.ediv_le_self _ aj
 have hw:=kZ (m:=b.tdiv a) ⟨aj,aj⟩;refine Cl.o func136 ntmps136 ag2 ?_;refine .af (.zn zg (.seq (.af (.z zm (.z zm (.z DS (.z gQ (.z zm (.lI (t':=9) rfl (fun K4=>?_) (fun K4=>?_))))))))))
 ·refine .T (.z zm (.T (.z zm (.T (.z Me (.T (.z pE (.zn zpT (.cu rfl (fun gY=>?_) (fun gY=>?_))))))))))
  ·refine .af (.z zm (.z zm (.z Me (.zn zg (.ret (rT (Fin.bw results136 rfl ?_)))))));rw [hw] at gY ⊢;exact ⟨by unfold rat;rw [if_pos ⟨by assumption,by assumption⟩],hs⟩
  ·refine .skip (nT (.af (.zn zg (.ret (Fin.bw results136 rfl ?_)))));rw [hw] at gY;exact ⟨by unfold rat;rw [if_neg aj],hs⟩
 ·exact .Fs 4 4 true (.zn zpF (.cF (.skip (nT (.af (.zn zg (.ret (Fin.bw results136 rfl ⟨by unfold rat;rw [if_neg aj],hs⟩))))))))
def qg(l:List Int):List (List Value):=(xQ l).map fun g=>[Value.agg #[I (g.at_:Int),I (g.n:Int)]]
theorem DW(hp:gl 9 100000 l){i:Nat}(h:i+2<l.length):fK l i=true↔0<rat (gi l (i+1) - gi l i) (gi l (i+2) - gi l (i+1))∨0<rat (gi l (i+2) - gi l (i+1)) (gi l (i+1) - gi l i):=by
 have h1:=hp.rise i aj;have h2:gi l (i+1)<gi l (i+2):=hp.rise (i+1) aj;unfold fK;rw [D0 aj aj];simp only [Bool.and_eq_true,decide_eq_true_eq];omega
theorem oE{v:Value}(hp:gl 9 100000 l)(hb:Row H b [v])(hr:RI H v l):Iter Tryz.prog 206 [Pt b] H (qg l):=by
 intro ly II Ix _ _ hy H0 Cr σf w hle zK hs;obtain ⟨a,c,rfl⟩:=RI.shape hr;have hlen:=hp.many;have FG:cellAt H0 b 0=some (.slice a l.length c):=cellAt.mono (hb.at 0) hle;refine Cl.o func206 ntmps206 ag2 ?_;refine .af (.zn zg (.block ?_));refine .loop (fun i:Nat=>⟨59,[],[(3,I (i:Int)),(0,.func (.yield ly) #[] #[]),(1,Pt b)]⟩)
  (fun i w=>i≤l.length∧∃j,j≤(xQ l).length∧(xQ l).drop j=om l i∧∃H1 σb,HLe H H1∧HLe H0 H1∧II j H1 σb∧St H1 w (σb++σf)) (fun i=>l.length - i) 0 (.dI rfl bj bk)
  ⟨Nat.zero_le _,0,Nat.zero_le _,rfl,H0,Cr,hle,HLe.refl _,zK,hs⟩ ?_
 clear hs zK;rintro i w ⟨vJ,j,hj,hd,H1,σb,aq,eU,hI,hs⟩;have xP:cellAt H1 b 0=some (.slice a l.length c):=cellAt.mono FG eU;refine .seq (.af (.z zm (.z cP (.y hs (zld an) (.z (cH ae) (.zn iG (.cu rfl (fun uo=>?_) (fun uo=>?_))))))))
 ·refine .skip (nT (.block (.af (.z zm (.z (zbd [_,_] ym) (.o (.alloc hs zeroValue249 rfl fun b4 w hs=>?_)))))));refine .o (.aS (vs:=[_,_]) hs rfl rfl sizeOf249 fun w hs=>?_);refine .nil (.cut (fun fs w=>nv fs ⟨59,[],[(4,Pt b4),(3,I (i:Int)),(0,.func (.yield ly) #[] #[]),(1,Pt b)]⟩∧St H1 w (.blk b4 [I (i:Int),I (((if fK l i then 2 else 1:Nat)):Int)]::(σb++σf))) ?_ ?_)
  ·refine .af (.z zm (.z cP (.y hs (zld an) (.z (cH ae) (.zn iG (.cu rfl (fun qe=>?_) (fun qe=>?_)))))))
   ·refine .seq (.draw mix rfl hs fun w hs=>?_);refine .y 0 rfl hs an ?_;refine .z 1 rfl zm ?_;refine .z 2 rfl cP ?_;have r1:=hp.rise i aj;have r2:gi l (i+1)<gi l (i+2):=hp.rise (i+1) aj;have C7:=DW hp (i:=i) aj;have q1:=hp.bd (i:=i) aj;have q2:=hp.bd (i:=i+2) aj;refine .ixX (enc:=fun x=>[I x]) (i:=3) hs rfl az .none (hr.mono aq) rfl rfl ae ak (bJ (l:=l) (i:=(i+1)) aj) dG ?_;intro Ma o22 km;replace km:=bB.one km;refine .r (i:=4) hs rfl az .none (aQ rfl ai km) ?_;refine .y 5 rfl hs an ?_;refine .z 6 rfl zm ?_;refine .ixX (enc:=fun x=>[I x]) (i:=7) hs rfl az .none (hr.mono aq) rfl rfl ae ak (bJ (l:=l) (i:=i) aj) dG ?_;intro R9 o26 iJ;replace iJ:=bB.one iJ;refine .r (i:=8) hs rfl az .none (aQ rfl ai iJ) ?_;refine .zw 9 rfl jc ?_;refine .y 10 rfl hs an ?_;refine .z 11 rfl zm ?_;refine .z 12 rfl cP ?_;refine .ixX (enc:=fun x=>[I x]) (i:=13) hs rfl az .none (hr.mono aq) rfl rfl ae ak (bJ (l:=l) (i:=(i+2)) aj) dG ?_;intro Pp o32 Da;replace Da:=bB.one Da;refine .r (i:=14) hs rfl az .none (aQ rfl ai Da) ?_;refine .y 15 rfl hs an ?_;refine .z 16 rfl zm ?_;refine .z 17 rfl cP ?_;refine .ixX (enc:=fun x=>[I x]) (i:=18) hs rfl az .none (hr.mono aq) rfl rfl ae ak (bJ (l:=l) (i:=(i+1)) aj) dG ?_;intro R7 o37 rC;replace rC:=bB.one rC;refine .r (i:=19) hs rfl az .none (aQ rfl ai rC) ?_;refine .zw 20 rfl jc ?_;refine .z 21 rfl zg ?_;refine .z 22 rfl zg ?_;refine .D hs ?_;refine .af (.z zm (.z zm (.o (.call call136 rfl (ic hs aj aj) ?_))));rintro _ w ⟨rfl,hs⟩;refine .z uS (.z zm (.lI (t':=44) rfl (fun De=>?_) (fun De=>?_)))
    ·refine .Fs 4 4 false (.zn zpT (.cT (.region (.z (zfa jo) (.o (.store hs rfl rfl ak fun w hs=>?_))))));refine .nil (nT ?_);rw [C7.2 (.inl De)];exact ⟨bk,hs⟩
    ·refine .T (.z zm (.T (.z zm (.T (.o (.call call136 rfl (ic hs aj aj) ?_))))));rintro _ w ⟨rfl,hs⟩;refine .T (.z uS (.zn zpF (.cu rfl (fun vL=>?_) (fun vL=>?_))))
     ·refine .region (.z (zfa jo) (.o (.store hs rfl rfl ak fun w hs=>?_)));refine .nil (nT ?_);rw [C7.2 (.inr vL)];exact ⟨bk,hs⟩
     ·refine .skip (nT ?_);rw [show fK l i=false from Bool.eq_false_iff.2 fun h=>by have:=C7.1 h;omega];exact ⟨bk,hs⟩
   ·refine .skip (nT ?_);rw [show fK l i=false by simp [fK];omega];exact ⟨bk,hs⟩
  ·rintro fs w ⟨lk,hs⟩;refine WE.sub ?_ lk;have OZ:=zL (l:=l) (i:=i) aj;rw [OZ] at hd;have Fj:j<(xQ l).length:=by
    have:=congrArg List.length hd;simp at this;omega
   have hgj:(xQ l)[j]=⟨i,fK l i⟩:=by
    rw [List.drop_eq_getElem_cons Fj] at hd;exact (List.cons.inj hd).1
   have hdj:(xQ l).drop (j+1)=om l (i+(if fK l i then 2 else 1)):=by
    rw [List.drop_eq_getElem_cons Fj] at hd;exact (List.cons.inj hd).2
   have hn12:(if fK l i then 2 else 1:Nat)=1∨(if fK l i then 2 else 1:Nat)=2:=by split<;>simp
   refine .seq (.af (.z zm (.y hs (zls [_,_] isAgg249 sizeOf249) ?_)));have Am:j<(qg l).length:=by simpa [qg] using Fj
   have xH:=hy j Am H1 σb (.blk b4 [I (i:Int),I (((if fK l i then 2 else 1:Nat)):Int)]::σf) w aq hI (St.deep hs);rw [show (qg l)[j]=[Value.agg #[I (i:Int),I (((if fK l i then 2 else 1:Nat)):Int)]] by simp only [qg,List.getElem_map,hgj];rfl] at xH;refine .o (.yield rfl rfl xH ?_);rintro v53 w ⟨H2,σ2,g1,hs,g3⟩;obtain ⟨bb,rfl,gT,gF⟩:=oA g3;replace hs:=St.shallow hs;refine .zn iW (.cond rfl (fun Ic=>?_) (fun Ic=>?_))
   ·exact .ret (rT (rB (rT (rB (Fin.Mp results206 ⟨H2,σ2,eU.trans g1,hs.tail,.inr (gF (by simpa using Ic))⟩)))))
   ·refine .skip (nT (.region (.z zm (.z (zfa jo) (.y hs (zld ai) (.z cP (.zn zg (nB (nT ?_)))))))));generalize (if fK l i then 2 else 1:Nat)=n at*;exact ⟨i+n,.dI rfl bj bk,⟨aj,j+1,Fj,hdj,H2,σ2,aq.trans g1,eU.trans g1,gT (by simpa using Ic),hs.tail⟩,aj⟩
 ·refine .exit (xT (xT (xB ?_)));rw [wI aj] at hd;have:(xQ l).length≤j:=by simpa using hd
  obtain rfl:j=(xQ l).length:=by omega
  exact Fin.uX results206 ⟨H1,σb,eU,hs,.inl (by simpa [qg] using hI)⟩
theorem qP{w:World}{v:Value}(hs:St H w σ)(hr:RI H v l)(hp:gl 9 100000 l):
  TN 135 [v] w fun u w'=>∃H1 b,HLe H H1∧u= .func (.func 206) #[] #[Pt b]∧Iter Tryz.prog 206 [Pt b] H1 (qg l)∧St H1 w' σ:=by
 obtain ⟨a,c,rfl⟩:=RI.shape hr;refine Cl.o func135 ntmps135 ag1 ?_;refine .af (.bx hs fun b1 w hs=>?_);refine .zn zg (.af (.q hs (dt (f:=[]) (c:=[_]) rfl rfl) (.zn zg (.ret (Fin.bw results135 rfl ?_)))));obtain ⟨H1,g1,g2,hs⟩:=hs.bK .here;exact ⟨H1,b1,g1,rfl,oE hp g2 (hr.mono g1),hs⟩
theorem ob{w:World}{bs bW from_ n:Nat}{W:List Int}{v:Value}(hs:St H w (.blk bs [.slice (some ⟨bW,0,none⟩) n n]:: .blk bW (Is W)::σ))(hW:W.length=n)(hr:RI H v xs)(hl:from_+xs.length≤n)(hn:n≤9)
  (hz:bA W n≤1000000000) (ha:wR xs≤1000000000):
  TN 134 [Pt bs,I (from_:Int),v] w fun _ w'=>St H w' (.blk bs [.slice (some ⟨bW,0,none⟩) n n]:: .blk bW (Is (ld W from_ xs))::σ):=by
 obtain ⟨a,c,rfl⟩:=RI.shape hr;have hlen:=(RI.len hr).2.2;refine Cl.o func134 ntmps134 ag3 ?_;refine .af (.z zm (.z (cH ae) (.zn zm (.for (N:=xs.length) (J:=fun k fr w=>fr=[(8,.slice a xs.length c),(0,Pt bs),(1,I (from_:Int))]∧St H w (.blk bs [.slice (some ⟨bW,0,none⟩) n n]:: .blk bW (Is (ld W from_ (xs.take k)))::σ)) aj ?_ ?_ ?_))))
 ·exact .mk ⟨rfl,hs⟩
 ·rintro k fr w hk ⟨rfl,hs⟩;have Il:=ns (xs.take k) W from_;have ru:=pv (xs.take k) W from_ (by rw [List.length_take];omega);rw [hW] at ru;have h1:=z7 xs k;have h2:=Ge xs k;have h3:=nz (ld W from_ (xs.take k)) (v:=from_+k) (n:=n) aj;have h4:=Dz hk W from_;refine .block (.af (.z zm (.ixY hs hr rfl rfl ae ak (bJ (l:=xs) (i:=k) aj) dG ?_)));intro l8 o13 iX;refine .q hs (aQ rfl ai iX) (.z zg (.zn zg (.region (.z zm (.z znc (.z (zfa oq) (.y hs (zld an) (.z zm (.z zm (.z cP (.q hs (kA (k:=from_+k) rfl rfl ae ak aj aj) (.y hs (zld ai) (.z zm (.z cP (.q hs (kA (k:=from_+k) rfl rfl ae ak aj aj) (.o (.store hs rfl rfl ak fun w hs=>?_)))))))))))))))));exact .nil (nB (nT (.mk ⟨rfl,by rw [h4];exact hs⟩)))
 ·rintro fr w ⟨rfl,hs⟩;rw [List.take_length] at hs;exact Fin.uX results134 hs
theorem CU{b:Int}(ha:0<a∧a≤100000)(hb:0<b∧b≤100000):0≤min a b∧min a b≤100000:=by omega
theorem Ka{b:Int}(h:0<tms a b):tms a b=1∨tms a b=2∨tms a b=3:=by have:=I7 a b;omega
set_option maxHeartbeats 1000000 in
theorem iM{w:World}{v:Value}(hs:St H w σ)(hr:RI H v l)(hp:gl 9 100000 l):
  TN 71 [v] w fun u w'=>∃H1,HLe H H1∧RI H1 u (wts l)∧St H1 w' σ:=by
 obtain ⟨a,c,rfl⟩:=RI.shape hr;have SZ:=hp.many;have S4:(xQ l).length≤9:=by have:=sc l l.length 0;unfold xQ;omega
 refine Cl.o func71 ntmps71 ag1 ?_;refine .af (.bx hs fun b1 w hs=>?_);refine .zn zg (.af (.y hs (zld an) (.z (cH ae) (.o (.y9 l.length hs rfl rfl ae qD rfl ak dA aj fun l8 w hs=>?_)))));refine .z (zbd [_] yj) (.o (.alloc hs zeroValue243 rfl fun b3 w hs=>?_));refine .o (.aS (vs:=[_]) hs rfl rfl sizeOf243 fun w hs=>?_);refine .nil (.af (.q hs (dt (f:=[_]) (c:=[]) rfl rfl) (.o (.alloc hs zeroValue244 rfl fun b4 w hs=>?_))));refine .o (.store hs rfl rfl sizeOf244 fun w hs=>?_);refine .nil (.seq (.af (.y hs (zld an) (.o (.call call135 rfl (qP hs hr hp) ?_)))));rintro _ w ⟨H1,wO,aq,rfl,oh,hs⟩;refine .nil (.block ?_);refine .rangeFunc (gf:=206) (cap:=[Pt wO]) (xs:=qg l) (σb:=[.blk b3 [.slice (some ⟨l8,0,none⟩) l.length l.length],.blk l8 (Is (Ae l 0)),.blk b4 [.func (.func 134) #[Pt b3] #[]],.blk b1 [.slice a l.length c]]) (σf:=σ) (hs.sb) trivial rfl oh call206 (fun x hx=>by
   simp only [qg,List.mem_map] at hx;obtain ⟨j,_,rfl⟩:=hx;rfl) rfl
  (I:=fun j H' σb=>σb=[.blk b3 [.slice (some ⟨l8,0,none⟩) l.length l.length],.blk l8 (Is (Ae l j)),.blk b4 [.func (.func 134) #[Pt b3] #[]],.blk b1 [.slice a l.length c]]) (Ix:=fun _ _ _=>False)
  (fun j _ _ σ g1 g2=>g2) (fun _ _ _ _ _ h=>h) rfl ?_ ?_ (fun D c H' σb w _ h _=>h.elim)
 ·rintro ly j hj H2 vZ tj w aW rfl hs ⟨rr,E9⟩;have Fj:j<(xQ l).length:=by simpa [qg] using hj
  obtain ⟨g,hg⟩:=nth Fj;rw [show (qg l)[j]=[Value.agg #[I (g.at_:Int),I (g.n:Int)]] by
   rw [List.getElem?_eq_getElem Fj] at hg;simp only [qg,List.getElem_map,Option.some.inj hg]]
  obtain ⟨i1,i2,i3,i4,i5⟩:=zM hp (List.mem_of_getElem? hg);have hK:=yI hg;have Tz:=oB l j;have hKz:=wc hp j aj;have xI:=hr.mono (aq.trans aW);have LM:=hp.bd (i:=g.at_) aj;have Jo:=hp.bd (i:=g.at_+1) aj;generalize hA:gi l (g.at_+1) - gi l g.at_=A at*;refine .region (.o (.alloc hs zeroValue249 rfl fun b5 w hs=>?_));refine .o (.aS (vs:=[_,_]) hs rfl rfl sizeOf249 fun w hs=>?_);refine .nil (nT ⟨H2,[.blk b5 [I (g.at_:Int),I (g.n:Int)],.blk b3 [.slice (some ⟨l8,0,none⟩) l.length l.length],.blk l8 (Is (Ae l j)),.blk b4 [.func (.func 134) #[Pt b3] #[]],.blk b1 [.slice a l.length c]],HLe.refl _,hs,?_⟩);rintro w sV - hs;refine .block (.seq (.draw mix rfl hs fun w hs=>?_));refine .y 0 rfl hs an ?_;refine .z 1 rfl (zfa fQ) ?_;refine .y 2 rfl hs ai ?_;refine .z 3 rfl cP ?_;refine .ixX (enc:=fun x=>[I x]) (i:=4) hs rfl az .none xI rfl rfl ae ak (bJ (l:=l) (i:=(g.at_+1)) aj) dG ?_;intro Cg o23 mZ;replace mZ:=bB.one mZ;refine .r (i:=5) hs rfl az .none (aQ rfl ai mZ) ?_;refine .y 6 rfl hs an ?_;refine .z 7 rfl (zfa fQ) ?_;refine .y 8 rfl hs ai ?_;refine .ixX (enc:=fun x=>[I x]) (i:=9) hs rfl az .none xI rfl rfl ae ak (bJ (l:=l) (i:=g.at_) aj) dG ?_;intro Pr o28 jw;replace jw:=bB.one jw;refine .r (i:=10) hs rfl az .none (aQ rfl ai jw) ?_;refine .zw 11 rfl jc ?_;rw [hA];refine .zw 12 rfl zg ?_;refine .D hs ?_;refine .seq (.af (.z (zfa jo) (.y hs (zld ai) (.z gQ ?_))))
  skip
  refine .nil (.cu rfl (fun xL=>?_) (fun xL=>?_))
  ·refine .af (.y hs (zld isAgg244) (.z (zfa fQ) (.y hs (zld ai) (.z zm (.z mm (.z zm (.z mm (.o (.buildSlice (cells:=[_,_]) hs dR rfl rfl fun Pj w hs=>?_)))))))));have h2:g.two=false:=by
    cases e:g.two with
    |false=>rfl
    |true=>simp [Grp.n,e] at xL
   obtain ⟨H3,bO,r41,hs⟩:=bG.bU (xs:=[18*A,18*A]) (v:= .slice (some ⟨Pj,0,none⟩) 2 2) (.full (len:=2) rfl) bj hs cZ;have LV:=Iy h2 hA;rw [LV] at hK i5;replace hs:St H3 w (.blk b3 [.slice (some ⟨l8,0,none⟩) l.length l.length]:: .blk l8 (Is (Ae l j)):: .blk b5 [I (g.at_:Int),I (g.n:Int)]:: .blk b4 [.func (.func 134) #[Pt b3] #[]]:: .blk b1 [.slice a l.length c]::sV):=hs.sb;refine .o (.nm (first:=[Pt b3]) (cap:=[]) rfl rfl call134 (ob (from_:=g.at_) (xs:=[18*A,18*A]) hs Tz r41 (by simp;omega) aj aj aj) ?_);rintro _ w hs;rw [←hK] at hs;exact .nil (.exit (xT (xB ⟨H3,_,bO,(hs.sb:St H3 w (.blk b3 _:: .blk l8 _:: .blk b4 _:: .blk b1 _::sV)),rfl⟩)))
  ·refine .skip (nT (.seq (.draw mix rfl hs fun w hs=>?_)));have h2:g.two=true:=by
    cases e:g.two with
    |true=>rfl
    |false=>simp [Grp.n,e] at xL
   obtain ⟨j1,j2,j3,j4⟩:=i4 h2;have hq2:=hp.bd (i:=g.at_+2) aj;generalize hB:gi l (g.at_+2) - gi l (g.at_+1)=B at*;have hmx:=D0 (a:=A) (b:=B) aj aj;have hk:=Ka j4;have Js:=CU (a:=A) (b:=B) ⟨aj,aj⟩ ⟨aj,aj⟩;obtain ⟨n1,n2,n3,n4⟩:=Iv hk Js.1 Js.2;obtain ⟨n5,n6,n7,n8,n9⟩:=n4 _ n3.1 n3.2;generalize hT:tms A B=T at*;generalize hM:min A B=M at*;have LV:=Iw h2 hA hB hT hM;refine .y 0 rfl hs an ?_;refine .z 1 rfl (zfa fQ) ?_;refine .y 2 rfl hs ai ?_;refine .z 3 rfl cP ?_;refine .ixX (enc:=fun x=>[I x]) (i:=4) hs rfl az .none xI rfl rfl ae ak (bJ (l:=l) (i:=(g.at_+2)) aj) dG ?_;intro TL o47 p9;replace p9:=bB.one p9;refine .r (i:=5) hs rfl az .none (aQ rfl ai p9) ?_;refine .y 6 rfl hs an ?_;refine .z 7 rfl (zfa fQ) ?_;refine .y 8 rfl hs ai ?_;refine .z 9 rfl cP ?_;refine .ixX (enc:=fun x=>[I x]) (i:=10) hs rfl az .none xI rfl rfl ae ak (bJ (l:=l) (i:=(g.at_+1)) aj) dG ?_;intro b53 o53 KX;replace KX:=bB.one KX;refine .r (i:=11) hs rfl az .none (aQ rfl ai KX) ?_;refine .zw 12 rfl jc ?_;rw [hB];refine .zw 13 rfl zg ?_;refine .D hs ?_;refine .af (.z zm (.z zm (.o (.call call136 rfl (ic hs aj aj) ?_))));rintro _ w ⟨rfl,hs⟩;refine .z zm (.z zm (.o (.call call136 rfl (ic hs aj aj) ?_)));rintro _ w ⟨rfl,hs⟩;refine .z LH ?_;rw [←hmx];refine .zn zg (.af (.z zm (.q hs (BD rfl rfl aj aj) (.z zm (.z cP (.z mm (.z zm (.z zm (.z Gy ?_)))))))));rw [hM];refine .z mm (.zn zg (.af (.z zm (.z zm (.z mm (.z zm (.z jc (.z mm (.z zm (.z zm (.z cP (.z mm (.z zm (.z cP (.z mm (.z zm (.z zm (.z mm (.z jc (.z mm (.o (.buildSlice (cells:=[_,_,_]) hs kT rfl rfl fun Ol w hs=>?_))))))))))))))))))))));refine .zn zg (.cut (fun fs w=>∃H3,nv fs ⟨103,[],[(10,.slice (some ⟨Ol,0,none⟩) 3 3),(5,Pt b5),(4,Pt b4),(3,Pt b3),(1,Pt b1)]⟩∧HLe H2 H3∧RI H3 (.slice (some ⟨Ol,0,none⟩) 3 3) (wJ l g)∧St H3 w (.blk b3 [.slice (some ⟨l8,0,none⟩) l.length l.length]:: .blk l8 (Is (Ae l j)):: .blk b5 [I (g.at_:Int),I (g.n:Int)]:: .blk b4 [.func (.func 134) #[Pt b3] #[]]:: .blk b1 [.slice a l.length c]::sV)) ?_ ?_)
   ·refine .af (.z zm (.z zm (.zn uS (.cu rfl (fun Nz=>?_) (fun Nz=>?_)))))
    ·refine .region (.z zm (.o (.call call137 rfl (kH (en:= .blk Ol (Is [(6:Int).tdiv T*(1+T)*M*T*(2 - T),(6:Int).tdiv T*(1+T)*M*(1+T)*(1+T),(6:Int).tdiv T*(1+T)*M*(2*T - 1)])) (hs.sb:St H2 w (.blk Ol _:: .blk b3 _:: .blk l8 _:: .blk b5 _:: .blk b4 _:: .blk b1 _::sV)) (.full rfl) bj) ?_)));rintro _ w ⟨en95,RM,hs⟩;refine .nil (nT ?_);obtain ⟨H3,bO,r90,hs⟩:=bG.bU RM bj hs .here;rw [if_pos Nz] at LV;rw [LV];exact ⟨H3,bk,bO,r90,hs⟩
    ·refine .skip (nT ?_);obtain ⟨H3,bO,r90,hs⟩:=bG.bU (xs:=[(6:Int).tdiv T*(1+T)*M*T*(2 - T),(6:Int).tdiv T*(1+T)*M*(1+T)*(1+T),(6:Int).tdiv T*(1+T)*M*(2*T - 1)]) (v:= .slice (some ⟨Ol,0,none⟩) 3 3) (.full (len:=3) rfl) bj hs cZ;rw [if_neg aj] at LV;rw [LV];exact ⟨H3,bk,bO,r90,hs.sb⟩
   ·rintro fs w ⟨H3,lk,bO,r90,hs⟩;refine WE.sub ?_ lk;refine .region (.y hs (zld isAgg244) (.z (zfa fQ) (.y hs (zld ai) (.z zm (.o (.nm (first:=[Pt b3]) (cap:=[]) rfl rfl call134 (ob (from_:=g.at_) (xs:=wJ l g) hs Tz r90 (by rw [BZ,show g.n=2 by unfold Grp.n;rw [h2];rfl];omega) aj aj aj) ?_))))));rintro _ w hs;rw [←hK] at hs;exact .nil (nB ⟨H3,_,bO,(hs.sb:St H3 w (.blk b3 _:: .blk l8 _:: .blk b4 _:: .blk b1 _::sV)),rfl⟩)
 ·rintro D H2 vZ w aW rfl hs;rw [show (qg l).length=(xQ l).length by simp [qg],GC] at hs;replace hs:St H2 w (.obj D (.deferred (some [])):: .blk b3 [.slice (some ⟨l8,0,none⟩) l.length l.length]:: .blk l8 (Is (wts l)):: .blk b4 [.func (.func 134) #[Pt b3] #[]]:: .blk b1 [.slice a l.length c]::σ):=hs;refine nB (nT (.af (.z (zfa oq) (.y hs (zld an) (.zn zg (.ret ?_))))));obtain ⟨H3,bO,hR,hs⟩:=bG.bU (xs:=wts l) (v:= .slice (some ⟨l8,0,none⟩) l.length l.length) (.full (by simp [Is,iH])) (by rw [iH];omega) hs cZ;exact Fin.kY [D] [] hs fun w hs=>⟨_,results1 results71 rfl,H3,aq.trans (aW.trans bO),hR,hs.out⟩
def CE(X Y:List Int)(i:Nat):List Int:=(List.range Y.length).map fun k=>gi X i*gi Y k
def qh(X Y:List Int)(i:Nat):List (List Int):=(List.range i).map (CE X Y)
theorem oL(X Y:List Int)(i:Nat):(CE X Y i).length=Y.length:=by simp [CE]
theorem m7(X Y:List Int)(i:Nat):(qh X Y i).length=i:=by simp [qh]
theorem Di(X Y:List Int)(i:Nat):qh X Y (i+1)=qh X Y i++[CE X Y i]:=by simp [qh,List.range_succ]
theorem Ei(hk:k<Y.length):(CE X Y i).take (k+1)=(CE X Y i).take k++[gi X i*gi Y k]:=by
 rw [ep (by simp [CE,hk]:(CE X Y i)[k]? =some (gi X i*gi Y k))]
theorem B1{n:Nat}(h:i<n):gr (qh X Y n) i=CE X Y i:=by simp [gr,List.getD,qh,h]
theorem Iz{n:Nat}(h:i<n)(hk:k<Y.length):gt (qh X Y n) i k=gi X i*gi Y k:=by
 unfold gt;rw [B1 h];simp [gi,List.getD,CE,hk]
inductive GrS(X Y:List Int)(b:Nat)(i k:Nat)(H:bC)(σ:List Ent):Prop
 |go (us:List Value) (v:Value) (en:Ent) (h:i<X.length) (h1:RLs H us (qh X Y i)) (h2:bG 1 v (Is ((CE X Y i).take k)) en) (h3:σ=[.blk b (us++v::List.replicate (X.length - i - 1) (.slice none 0 0)),en])
 |fin (us:List Value) (h:i=X.length) (h1:RLs H us (qh X Y i)) (h3:σ=[.blk b us])
theorem GrS.mono{H':bC}(h:GrS X Y b i k H σ)(hl:HLe H H'):GrS X Y b i k H' σ:=by
 cases h with
 |go us v en h h1 h2 h3=>exact .go us v en h (h1.mono hl) h2 h3
 |fin us h h1 h3=>exact .fin us h (h1.mono hl) h3
theorem iN{w:World}{v:Value}(hs:St H w σ)(hr:RI H v l):
  TN 26 [v] w fun u w'=>∃H1 vo e,HLe H H1∧u= .tuple #[vo,I e]∧(gl 9 100000 l→e=0∧RI H1 vo (wts l))∧St H1 w' σ:=by
 obtain ⟨a,c,rfl⟩:=RI.shape hr;refine Cl.o func26 ntmps26 ag1 ?_;refine .af (.z zg (.zn zg (.seq (.af (.z zm (.o (.call call70 rfl (mn hs hr) ?_)))))));rintro _ w ⟨e,rfl,he,hs⟩;refine .zn zg (.af (.z zm (.zn gL (.gU rfl (fun DR=>?_) (fun DR=>?_)))))
 ·exact .af (.z zm (.z zg (.zn zg (.ret (rT (Fin.oe results26 rfl rfl ⟨H,_,_,HLe.refl H,rfl,fun h=>by rcases he with ⟨_,h2⟩|⟨h1,_⟩;exact (DR h2).elim;exact (h1 h).elim,hs⟩))))))
 ·refine .skip (nT (.af (.z zm ?_)))
  have hp:gl 9 100000 l:=by rcases he with ⟨h,_⟩|⟨_,h2⟩;exact h;exact (h2 (by simpa using DR)).elim
  refine .o (.call call71 rfl (iM hs hr hp) ?_);rintro v11 w ⟨H1,aq,hR,hs⟩;exact .z zg (.zn zg (.ret (Fin.oe results26 rfl rfl ⟨H1,_,_,aq,rfl,fun _=>⟨rfl,hR⟩,hs⟩)))
theorem qO{w:World}{a b:List Int}(hs:St H w σ)(h1:RI H v1 a)(h2:RI H v2 b):
  TN 156 [v1,v2] w fun u w'=>∃bb:Bool,u= .bool bb∧(bb=true↔gl 9 100000 a∧gl 7 15000 b)∧St H w' σ:=by
 refine Cl.o func156 ntmps156 ag2 ?_;refine .af (.zn zg (.af (.z zm (.o (.call call133 rfl (gR (many:=9) (most:=100000) hs h1) ?_)))));rintro _ w ⟨b6,rfl,O6,hs⟩;refine .z zm (.bif (t':=7) rfl (fun O5=>?_) (fun O5=>?_))
 ·refine .T (.z zm (.T (.o (.call call133 rfl (gR (many:=7) (most:=15000) hs h2) ?_))));rintro _ w ⟨b9,rfl,K4,hs⟩;exact .z zpT (.zn zg (.ret (Fin.bw results156 rfl ⟨_,rfl,by rw [K4];exact ⟨fun h=>⟨O6.1 O5,h⟩,fun h=>h.2⟩,hs⟩)))
 ·exact .Fs 2 2 true (.z zpF (.zn zg (.ret (Fin.bw results156 rfl ⟨_,rfl,⟨fun h=>(by cases h),fun h=>by rw [O6.2 h.1] at O5;cases O5⟩,hs⟩))))
theorem nH{w:World}{bx by_:Nat}{x y:Int}(hs:St H w σ)(hx:Row H bx [I x])(hy:Row H by_ [I y]):
  TN 270 [Pt bx,Pt by_] w fun u w'=>u= .tuple #[I x,I y]∧St H w' σ:=by
 have BP:=hx.at 0;have hy0:=hy.at 0;refine Cl.o func270 ntmps270 ag2 ?_;refine .af (.z zg (.zn zg (.seq (.draw mix rfl hs fun w hs=>?_))));refine .y 0 rfl hs ai ?_;refine .y 1 rfl hs ai ?_;refine .z 2 rfl zg ?_;refine .z 3 rfl zg ?_;refine .D hs ?_;exact .ret (Fin.oe results270 rfl rfl ⟨rfl,hs⟩)
def PrE(X Y:List Int)(p:Nat)(H:bC)(z:List Value):Prop:=
 ∃bx by_,z=[.agg #[I ((p/Y.length:Nat):Int),I ((p%Y.length:Nat):Int)],.func (.func 270) #[] #[Pt bx,Pt by_]]∧Row H bx [I (gi X (p/Y.length))]∧Row H by_ [I (gi Y (p%Y.length))]
theorem pG{b2:Nat}(xP:Row H b1 [v1])(uU:Row H b2 [v2])(hX:RI H v1 X)(hY:RI H v2 Y)(Df:X.length≤1000)(Rs:Y.length≤1000):
  IU Tryz.prog 269 [Pt b1,Pt b2] H (X.length*Y.length) (PrE X Y):=by
 intro ly II Ix Ak _ hy H0 Cr σf w hle zK hs;obtain ⟨a1,c1,rfl⟩:=RI.shape hX;obtain ⟨a2,c2,rfl⟩:=RI.shape hY;have R3:cellAt H0 b1 0=some (.slice a1 X.length c1):=cellAt.mono (xP.at 0) hle;have TJ:cellAt H0 b2 0=some (.slice a2 Y.length c2):=cellAt.mono (uU.at 0) hle;refine Cl.o func269 ntmps269 ag3 ?_;refine .af (.y hs (zld an) (.z (cH ae) (.zn zm (.for (N:=X.length) (J:=fun i fr w=>fr=[(8,.slice a1 X.length c1),(0,.func (.yield ly) #[] #[]),(1,Pt b1),(2,Pt b2)]∧∃H1 σb,HLe H H1∧HLe H0 H1∧II (i*Y.length) H1 σb∧St H1 w (σb++σf)) aj ?_ ?_ ?_))))
 ·exact .mk ⟨rfl,H0,Cr,hle,HLe.refl _,by rw [Nat.zero_mul];exact zK,hs⟩
 ·rintro i fr w hi ⟨rfl,H1,σb,aq,eU,hI,hs⟩;refine .block (.af (.z zm (.ixY hs (hX.mono aq) rfl rfl ae ak (bJ (l:=X) (i:=i) aj) dG ?_)));intro l8 o13 iX;refine .q hs (aQ rfl ai iX) (.o (.alloc hs dA rfl fun b5 w hs=>?_));refine .z zg (.o (.store hs rfl rfl ak fun w hs=>?_));refine .nil (.af ?_);obtain ⟨H2,aW,r5,hs⟩:=hs.bK (b:=b5) .here;have h22:=cellAt.mono TJ (eU.trans aW);refine .y hs (zld an) (.z (cH ae) (.zn zm (.for (N:=Y.length) (J:=fun k fr w=>fr=[(15,.slice a2 Y.length c2),(4,I (i:Int)),(10,I (i:Int)),(9,I (X.length:Int)),(5,Pt b5),(8,.slice a1 X.length c1),(0,.func (.yield ly) #[] #[]),(1,Pt b1),(2,Pt b2)]∧∃H3 σb,HLe H2 H3∧II (i*Y.length+k) H3 σb∧St H3 w (σb++σf)) aj ?_ ?_ ?_)))
  ·exact .mk ⟨rfl,H2,σb,HLe.refl _,Ak _ _ _ _ aW hI,hs⟩
  ·rintro k fr w hk ⟨rfl,H3,Gx,bO,FJ,hs⟩;have jd:=eU.trans (aW.trans bO);have jS:=aq.trans (aW.trans bO);refine .block (.af (.z zm (.ixY hs (hY.mono jS) rfl rfl ae ak (bJ (l:=Y) (i:=k) aj) dG ?_)));intro Pu o20 vM;refine .q hs (aQ rfl ai vM) (.o (.alloc hs dA rfl fun b7 w hs=>?_));refine .z zg (.o (.store hs rfl rfl ak fun w hs=>?_));refine .nil (.af (.z zm (.z zm (.z zm (.q hs (Hd (vs:=[(0,I (i:Int)),(1,I (k:Int))]) (cells:=[I (i:Int),I (k:Int)]) zeroValue28 rfl lh ak rfl) (.q hs (dt (f:=[]) (c:=[_,_]) rfl rfl) ?_))))));obtain ⟨H4,fk,r7,hs⟩:=hs.bK (b:=b7) .here;obtain ⟨d1,d2⟩:=Mg (nw:=Y.length) (i:=i) (k:=k) hk;have fu:i*Y.length+k<X.length*Y.length:=by
    have:=Nat.mul_le_mul_right Y.length (show i+1≤X.length by omega);rw [Nat.add_mul,Nat.one_mul] at this;omega
   have xH:=hy (i*Y.length+k) fu [.agg #[I (i:Int),I (k:Int)],.func (.func 270) #[] #[Pt b5,Pt b7]] H4 Gx σf w (jS.trans fk) ⟨b5,b7,by rw [d1,d2],by rw [d1];exact r5.mono (bO.trans fk),by rw [d2];exact r7⟩ (Ak _ _ _ _ fk FJ) hs;refine .o (.yield rfl rfl xH ?_);rintro v27 w ⟨H5,σ5,g1,hs,g3⟩;obtain ⟨bb,rfl,gT,gF⟩:=oA g3;refine .zn iW (.cond rfl (fun jw=>?_) (fun jw=>?_))
   ·exact .ret (rB (rT (rB (rB (rT (rB (Fin.Mp results269 ⟨H5,σ5,jd.trans (fk.trans g1),hs,.inr (gF (by simpa using jw))⟩)))))))
   ·exact .skip (nB (nT (.mk ⟨rfl,H5,σ5,bO.trans (fk.trans g1),gT (by simpa using jw),hs⟩)))
  ·rintro fr w ⟨rfl,H3,Gx,bO,FJ,hs⟩;exact nB (nT (.mk ⟨rfl,H3,Gx,aq.trans (aW.trans bO),eU.trans (aW.trans bO),by rw [Nat.add_mul,Nat.one_mul];exact FJ,hs⟩))
 ·rintro fr w ⟨rfl,H1,σb,aq,eU,hI,hs⟩;exact Fin.uX results269 ⟨H1,σb,eU,hs,.inl hI⟩
theorem sq{w:World}(hs:St H w σ)(hX:RI H v1 X)(hY:RI H v2 Y)(Df:X.length≤1000)(Rs:Y.length≤1000):
  TN 231 [v1,v2] w fun u w'=>∃H1 b1 b2,HLe H H1∧u= .func (.func 269) #[] #[Pt b1,Pt b2]∧IU Tryz.prog 269 [Pt b1,Pt b2] H1 (X.length*Y.length) (PrE X Y)∧St H1 w' σ:=by
 obtain ⟨a1,c1,rfl⟩:=RI.shape hX;obtain ⟨a2,c2,rfl⟩:=RI.shape hY;refine Cl.o func231 ntmps231 ag2 ?_;refine .af (.bx hs fun b2 w hs=>?_);refine .bx hs fun b3 w hs=>?_
 refine .zn zg (.af (.q hs (dt (f:=[]) (c:=[_,_]) rfl rfl) (.zn zg (.ret (Fin.bw results231 rfl ?_)))));obtain ⟨H1,g1,r1,hs⟩:=hs.bK (b:=b2) cZ;obtain ⟨H2,g2,r2,hs⟩:=hs.bK (b:=b3) cZ;exact ⟨H2,b2,b3,g1.trans g2,rfl,pG (r1.mono g2) r2 (hX.mono (g1.trans g2)) (hY.mono (g1.trans g2)) Df Rs,hs⟩
set_option maxHeartbeats 1000000 in
theorem tm{w:World}{l1 l2:List Int}(hs:St H w σ)(Jn:RI H v1 l1)(xI:RI H v2 l2)(Nb:gl 9 100000 l1)(Jq:gl 7 15000 l2):
  TN 157 [v1,v2] w fun u w'=>∃H1,HLe H H1∧RT H1 u (qh (wts l1) (wts l2) l1.length)∧St H1 w' σ:=by
 obtain ⟨a1,c1,rfl⟩:=RI.shape Jn;obtain ⟨a2,c2,rfl⟩:=RI.shape xI;have ud:=Nb.many;have Qx:=Jq.many;have htw1:=Nb.two;have htw2:=Jq.two;have Qu:gl 9 100000 l2:=⟨Jq.two,aj,Jq.low,by have:=Jq.high;omega,Jq.rise⟩;have Df:=iH l1;have Rs:=iH l2;have hXb:=I2 Nb;have hYb:=I2 Jq;refine Cl.o func157 ntmps157 ag2 ?_;refine .af (.zn zg (.af (.z zm (.o (.call call71 rfl (iM hs Jn Nb) ?_)))));rintro v13 w ⟨H1,aq,hX,hs⟩;refine .z zm (.o (.call call71 rfl (iM hs (xI.mono aq) Qu) ?_));rintro v15 w ⟨H2,aW,hY,hs⟩;replace hX:=hX.mono aW;generalize wts l1=X at*;generalize wts l2=Y at*;obtain ⟨aX,cX,rfl⟩:=RI.shape hX;obtain ⟨aY,cY,rfl⟩:=RI.shape hY;refine .z zg (.zn zg (.af (.z zm (.z (cH ae) (.o (.MN l1.length hs rfl rfl aC typeInfo22 rfl aL gp aj fun rN w hs=>?_))))));refine .o (.alloc hs zeroValue40 rfl fun b7 w hs=>?_);refine .o (.store hs rfl rfl sizeOf40 fun w hs=>?_);refine .nil (.seq (.af (.z zm (.z zm (.o (.call call231 rfl (sq hs hX hY aj aj) ?_))))));rintro _ w ⟨H3,bp1,bp2,bO,rfl,oh,hs⟩;have jd:=aq.trans (aW.trans bO);have h0:GrS X Y rN 0 0 H3 [.blk rN (List.replicate l1.length (.slice none 0 0)),.nul]:=by
  refine .go [] (.slice none 0 0) .nul aj (RLs.nil _) (.nil 1 none) ?_;rw [Df];obtain ⟨m,hm⟩:∃m,l1.length=m+1:=⟨l1.length - 1,aj⟩;rw [hm];rfl
 refine .nil (.block ?_);refine .Ja (gf:=269) (cap:=[Pt bp1,Pt bp2]) (N:=X.length*Y.length) (E:=PrE X Y) (σb:= .blk b7 [.slice (some ⟨rN,0,none⟩) l1.length l1.length]::[.blk rN (List.replicate l1.length (.slice none 0 0)),.nul]) (σf:=σ) (hs.nul.sb) trivial rfl oh call269 (fun k H' z ⟨_,_,hz,_⟩=>by rw [hz];rfl) rfl
  (I:=fun p H' σb=>∃σ1,σb= .blk b7 [.slice (some ⟨rN,0,none⟩) l1.length l1.length]::σ1∧GrS X Y rN (p/Y.length) (p%Y.length) H' σ1) (Ix:=fun _ _ _=>False)
  (fun j _ _ σ g1 ⟨σ1,g2,g3⟩=>⟨σ1,g2,g3.mono g1⟩) (fun _ _ _ _ _ h=>h) ⟨_,rfl,by rw [Nat.zero_div,Nat.zero_mod];exact h0⟩ ?_ ?_ (fun D c H' σb w _ h _=>h.elim)
 ·rintro ly p hp z H4 vZ tj w fk ⟨bx,by_,rfl,rx,ry⟩ ⟨σ1,rfl,hG⟩ hs ⟨rr,E9⟩;have Nc:=BJ (p:=p) (m:=Y.length) aj;have HT:=Nat.mod_lt p (show 0<Y.length by omega);have fh:p/Y.length<X.length:=Nat.div_lt_of_lt_mul (by rw [Nat.mul_comm];exact hp);generalize hi:p/Y.length=i at*;generalize hk:p%Y.length=k at*
  cases hG with
  |fin us h=>omega
  |go us v en h h1 h2 h3=>
  subst h3;obtain ⟨av,lv,cv,rfl,SY⟩:=h2.shape;have HK:us.length=i:=by rw [h1.1,m7]
  have xP:=hXb i;have uU:=hYb k;have SQ:=JV (gi X i) (gi Y k);have hprb: -3456000000000≤gi X i*gi Y k∧gi X i*gi Y k≤3456000000000:=mO (A:=4800000) (B:=720000) (by unfold ab at xP;omega) (by unfold ab at uU;omega);refine .af (.o (.alloc hs zeroValue28 rfl fun b8 w hs=>?_));refine .o (.aS (vs:=[_,_]) hs rfl rfl sizeOf28 fun w hs=>?_);refine .nil (.region (.zn zg (nT ⟨H4,[.blk b8 [I (i:Int),I (k:Int)],.blk b7 [.slice (some ⟨rN,0,none⟩) l1.length l1.length],.blk rN (us++Value.slice av lv cv::List.replicate (X.length - i - 1) (Value.slice none 0 0)),en],HLe.refl _,hs,?_⟩)));rintro w sV - hs;refine .block (.af (.z zm (.o (.nm (first:=[]) (cap:=[Pt bx,Pt by_]) rfl rfl call270 (nH hs rx ry) ?_))));rintro _ w ⟨rfl,hs⟩;refine .z zm (.z zex (.z zex (.z zg (.zn zg (.draw mix rfl hs fun w hs=>?_)))));refine .zv 0 rfl hs (rp IZ) (.zw 1 rfl (zia 0 lh ak) (.y 2 rfl hs ai ?_));refine .y 3 rfl hs IZ ?_;refine .zw 4 rfl (zia 0 lh ak) (.zv 5 rfl hs (rp ai) (.zw 6 rfl (kA (k:=i) rfl rfl aC aL rfl aj) (.load (i:=7) hs rfl az .none rfl an ?_ (hv:=by rw [List.getElem?_append_right aj,HK,Nat.sub_self];rfl))));refine .zw 8 rfl zm ?_;refine .z 9 rfl zm ?_;refine .z 10 rfl mm ?_;refine .E 11 hs ?_;refine .buildSlice (cells:=[_]) hs bL rfl rfl ?_;intro Oo w hs;refine .go (.E 12 hs ?_);refine .append (ys:=Is [gi X i*gi Y k]) hs bM rfl rfl h2 (.own .here rfl rfl) (ky _) (fun l' h=>by simp at h;omega) ?_;intro v41 en41 w hO hs;rw [show Is ((CE X Y i).take k)++Is [gi X i*gi Y k]=Is ((CE X Y i).take (k+1)) by rw [Ei HT];simp [Is]] at hO;obtain ⟨a41,l41,c41,rfl,hl41⟩:=hO.shape;refine .go (.zw 13 rfl (kA (k:=i) rfl rfl aC aL rfl aj) (.E 14 hs ?_));refine .store (c':=us++ .slice a41 l41 c41::List.replicate (X.length - i - 1) (.slice none 0 0)) hs rfl rfl aL ?_ cZ (by simp;omega) (by rw [List.set_append_right _ _ aj,HK,Nat.sub_self];rfl);intro w hs;refine .go (.D hs (nB ?_))
  rcases Nc with ⟨g1,g2,g3⟩|⟨g1,g2,g3⟩
  ·exact ⟨H4,[.blk b7 [.slice (some ⟨rN,0,none⟩) l1.length l1.length],.blk rN (us++ .slice a41 l41 c41::List.replicate (X.length - i - 1) (.slice none 0 0)),en41],HLe.refl _,(hs.sb:St H4 w (.blk b7 _:: .blk rN _::en41::sV)),_,rfl,by rw [g2,g3];exact .go us _ en41 h h1 hO rfl⟩
  ·obtain ⟨H5,eT,hR,hs⟩:=bG.bU hO (by rw [List.length_take,oL];omega) hs cZ;rw [List.take_of_length_le (by rw [oL];omega)] at hR;have JL:RLs H5 (us++[.slice a41 l41 c41]) (qh X Y (i+1)):=by rw [Di];exact (h1.mono eT).snoc hR
   by_cases e:i+1<X.length
   ·refine ⟨H5,[.blk b7 [.slice (some ⟨rN,0,none⟩) l1.length l1.length],.blk rN (us++ .slice a41 l41 c41::List.replicate (X.length - i - 1) (.slice none 0 0)),.nul],eT,(hs.nul.sb:St H5 w (.blk b7 _:: .blk rN _:: .nul::sV)),_,rfl,?_⟩;rw [g2,g3];refine .go (us++[.slice a41 l41 c41]) (.slice none 0 0) .nul e JL (.nil 1 none) ?_;obtain ⟨m,hm⟩:∃m,X.length - i - 1=m+1:=⟨X.length - i - 2,aj⟩;rw [hm,show X.length - (i+1) - 1=m by omega,List.append_assoc];rfl
   ·refine ⟨H5,[.blk b7 [.slice (some ⟨rN,0,none⟩) l1.length l1.length],.blk rN (us++ .slice a41 l41 c41::List.replicate (X.length - i - 1) (.slice none 0 0))],eT,(hs.sb:St H5 w (.blk b7 _:: .blk rN _::sV)),_,rfl,?_⟩;rw [g2,g3];refine .fin (us++[.slice a41 l41 c41]) aj JL ?_;rw [show X.length - i - 1=0 by omega];rfl
 ·rintro D H4 vZ w fk ⟨σ1,rfl,hG⟩ hs;rw [Nat.mul_div_cancel _ aj,Nat.mul_mod_left] at hG
  cases hG with
  |go us v en h=>omega
  |fin us h h1 h3=>
  subst h3;replace hs:St H4 w (.obj D (.deferred (some [])):: .blk b7 [.slice (some ⟨rN,0,none⟩) l1.length l1.length]:: .blk rN us::σ):=hs;have HK:us.length=l1.length:=by rw [h1.1,m7,Df]
  refine nB (nT (.af (.y hs (zld IZ) (.zn zg (.ret ?_)))));obtain ⟨H5,eT,hR,hs⟩:=h1.bK (v:= .slice (some ⟨rN,0,none⟩) l1.length l1.length) (en:= .blk rN us) (.full (by simp [HK])) aj hs cZ;rw [Df] at hR;exact Fin.kY [D] [] hs fun w hs=>⟨_,results1 results157 rfl,H5,jd.trans (fk.trans eT),hR,hs.out⟩
theorem mG{w:World}{l1 l2:List Int}(hs:St H w σ)(Jn:RI H v1 l1)(xI:RI H v2 l2):
  TN 84 [v1,v2] w fun u w'=>∃H1 vo e,HLe H H1∧u= .tuple #[vo,I e]∧(gl 9 100000 l1∧gl 7 15000 l2→e=0∧RT H1 vo (qh (wts l1) (wts l2) l1.length))∧(e=0→gl 9 100000 l1∧gl 7 15000 l2)∧St H1 w' σ:=by
 refine Cl.o func84 ntmps84 ag2 ?_;refine .af (.z zg (.zn zg (.seq (.af (.z zm (.z zm (.o (.call call156 rfl (qO hs Jn xI) ?_))))))));rintro _ w ⟨b8,rfl,JF,hs⟩;refine .zn iW (.cond rfl (fun pC=>?_) (fun pC=>?_))
 ·exact .af (.z zg (.zn zg (.ret (rT (Fin.oe results84 rfl rfl ⟨H,_,_,HLe.refl H,rfl,fun h=>(by rw [JF.2 h] at pC;cases pC),fun h=>aj,hs⟩)))))
 ·refine .skip (nT (.af (.z zm (.z zm ?_))));have hp:=JF.1 (by simpa using pC);refine .o (.call call157 rfl (tm hs Jn xI hp.1 hp.2) ?_);rintro v12 w ⟨H1,aq,hR,hs⟩;exact .z zg (.zn zg (.ret (Fin.oe results84 rfl rfl ⟨H1,_,_,aq,rfl,fun _=>⟨rfl,hR⟩,fun _=>hp,hs⟩)))
theorem aZ{w:World}(hs:St H w σ):TN 85 [I a0,I a1,I a2] w fun v w'=>v= .bool (decide (a1≤a0∧a0≤a2))∧St H w' σ:=by
 refine Cl.o func85 ntmps85 ag3 ?_;refine .af (.zn zg (.af (.z zm (.z zm (.z pE (.z zm (.lI (t':=10) rfl (fun m6=>?_) (fun m6=>?_))))))))
 ·exact .T (.z zm (.T (.z zm (.T (.z pE (.z zpT (.zn zg (.ret (Fin.bw results85 rfl ⟨by simp [*],hs.out⟩)))))))))
 ·exact .Fs 3 3 true (.z zpF (.zn zg (.ret (Fin.bw results85 rfl ⟨by simp [*],hs.out⟩))))
theorem gx{w:World}(hs:St H w σ):TN 86 [I a0] w fun v w'=>v= .bool (decide (1≤a0∧a0≤99999))∧St H w' σ:=by
 refine Cl.o func86 ntmps86 ag1 ?_;refine .af (.zn zg (.af (.z zm (.o (.call iV rfl (aZ hs) ?_)))));rintro _ w ⟨rfl,hs⟩;exact .zn zg (.ret (Fin.bw results86 rfl ⟨rfl,hs⟩))
theorem fC{w:World}{vst vwa:Value}(hs:St H w σ)(h1:RI H vst s.st)(h2:RI H vwa s.wa):
  TN 41 [.agg #[I s.id,I s.src,vst,vwa,I s.al,I s.up]] w fun v w'=>∃H1 e,HLe H H1∧v=I e∧((fm s∧e=0)∨(¬fm s∧e=30))∧St H1 w' σ:=by
 obtain ⟨ast,cst,rfl⟩:=RI.shape h1;obtain ⟨awa,cwa,rfl⟩:=RI.shape h2;refine Cl.o func41 ntmps41 ag1 ?_;refine .af (.bx hs fun b1 w hs=>?_);refine .zn zg (.seq (.af (.z (zfa a8) (.y hs (zld an) (.z (zfa aR) (.y hs (zld an) (.o (.call call84 rfl (mG hs h1 h2) ?_))))))));rintro _ w ⟨H1,vo,e,aq,rfl,hG,hG',hs⟩;refine .z zm (.z zex (.z zex (.z zg (.zn zg (.af (.z zm (.z gL (.z zm (.F9 (t':=15) rfl (fun zH=>?_) (fun zH=>?_))))))))))
 ·exact .Fs 4 2 false (.z zpT (.z zm (.Fs 4 8 false (.z zpT (.z zm (.Fs 5 14 false (.z zpT (.z zm (.Fs 5 21 false (.zn zpT (.cT (.af (.zn zg (.ret (rT (Fin.bw OE rfl ⟨H1,_,aq,rfl,.inr ⟨fun h=>by have:=(hG ⟨h.st,h.wa⟩).1;simp_all,rfl⟩,hs.out⟩))))))))))))))))
 ·refine .T (.z (zfa di) (.T (.y hs (zld ai) (.T (.o (.call iV rfl (aZ hs) ?_))))));rintro _ w ⟨rfl,hs⟩;refine .T (.z iW (.z zpF (.z zm (.bif (t':=21) rfl (fun xO=>?_) (fun xO=>?_)))))
  ·exact .Fs 4 8 false (.z zpT (.z zm (.Fs 5 14 false (.z zpT (.z zm (.Fs 5 21 false (.zn zpT (.cT (.af (.zn zg (.ret (rT (Fin.bw OE rfl ⟨H1,_,aq,rfl,.inr ⟨fun h=>by have:=h.id;simp_all,rfl⟩,hs.out⟩)))))))))))))
  ·refine .T (.z (zfa cn) (.T (.y hs (zld ai) (.T (.o (.call call86 rfl (gx hs) ?_))))));rintro _ w ⟨rfl,hs⟩;refine .T (.z iW (.z zpF (.z zm (.bif (t':=27) rfl (fun qf=>?_) (fun qf=>?_)))))
   ·exact .Fs 5 14 false (.z zpT (.z zm (.Fs 5 21 false (.zn zpT (.cT (.af (.zn zg (.ret (rT (Fin.bw OE rfl ⟨H1,_,aq,rfl,.inr ⟨fun h=>by have:=h.src;simp_all,rfl⟩,hs.out⟩))))))))))
   ·refine .T (.z (zfa dM) (.T (.z (zfa lT) (.T (.y hs (zld ai) (.T (.o (.call iV rfl (aZ hs) ?_))))))));rintro _ w ⟨rfl,hs⟩;refine .T (.z iW (.z zpF (.z zm (.bif (t':=34) rfl (fun Rn=>?_) (fun Rn=>?_)))))
    ·exact .Fs 5 21 false (.zn zpT (.cT (.af (.zn zg (.ret (rT (Fin.bw OE rfl ⟨H1,_,aq,rfl,.inr ⟨fun h=>by have:=h.al;simp_all,rfl⟩,hs.out⟩)))))))
    ·refine .T (.z (zfa dM) (.T (.z (zfa lS) (.T (.y hs (zld ai) (.T (.o (.call iV rfl (aZ hs) ?_))))))));rintro _ w ⟨rfl,hs⟩;refine .T (.z iW (.zn zpF (.cond rfl (fun rA=>?_) (fun rA=>?_))))
     ·exact .af (.zn zg (.ret (rT (Fin.bw OE rfl ⟨H1,_,aq,rfl,.inr ⟨fun h=>by have:=h.up;simp_all,rfl⟩,hs.out⟩))))
     ·refine .skip (nT (.af (.zn zg (.ret (Fin.bw OE rfl ?_)))));have hg:=hG' (by simp_all);exact ⟨H1,_,aq,rfl,.inl ⟨⟨hg.1,hg.2,by simp_all,by simp_all,by simp_all,by simp_all⟩,rfl⟩,hs.out⟩
theorem mv{w:World}{r:Rdg}{vst vwa:Value}(hs:St H w σ)(h1:RI H vst s.st)(h2:RI H vwa s.wa):
  TN 103 [.agg #[I s.id,I s.src,vst,vwa,I s.al,I s.up],.agg #[I r.src,I r.st,I r.wa,I r.val,I r.tol,I r.tape,I r.day]] w fun v w'=>∃b:Bool,v= .bool b∧(b=true↔j5 s r)∧St H w' σ:=by
 obtain ⟨ast,cst,rfl⟩:=RI.shape h1;obtain ⟨awa,cwa,rfl⟩:=RI.shape h2;have l1:=(RI.len h1).2.2;have l2:=(RI.len h2).2.2;refine Cl.o func103 ntmps103 ag2 ?_;refine .af (.bx hs fun b2 w hs=>?_);refine .bx hs fun b3 w hs=>?_
 refine .zn zg (.af (.z (zfa dW) (.y hs (zld ai) (.o (.call call86 rfl (gx hs) ?_)))));rintro _ w ⟨rfl,hs⟩;refine .z zm (.bif (t':=8) rfl (fun JF=>?_) (fun JF=>?_))
 ·refine .T ?_;refine .z (zfa eJ) (.T (.y hs (zld ai) (.T (.z (zfa a8) (.T (.y hs (zld an) (.T (.z (cH ae) (.T (.z jc (.T (.o (.call iV rfl (aZ hs) ?_)))))))))))));rintro _ w ⟨rfl,hs⟩;refine .z zpT (.z zm (.bif (t':=17) rfl (fun FC=>?_) (fun FC=>?_)))
  ·refine .T ?_;refine .z (zfa eI) (.T (.y hs (zld ai) (.T (.z (zfa aR) (.T (.y hs (zld an) (.T (.z (cH ae) (.T (.z jc (.T (.o (.call iV rfl (aZ hs) ?_)))))))))))));rintro _ w ⟨rfl,hs⟩;refine .z zpT (.z zm (.bif (t':=26) rfl (fun A5=>?_) (fun A5=>?_)))
   ·refine .T (.z (zfa bY) (.T (.y hs (zld ai) (.T (.o (.call iV rfl (aZ hs) ?_))))));rintro _ w ⟨rfl,hs⟩;refine .z zpT (.z zm (.bif (t':=31) rfl (fun A4=>?_) (fun A4=>?_)))
    ·refine .T (.z (zfa dC) (.T (.y hs (zld ai) (.T (.z (zfa bY) (.T (.y hs (zld ai) (.T ?_))))))));have ht:0≤r.tol∧r.tol≤1000:=by simp_all
     refine .z jc (.T (.o (.call iV rfl (aZ hs) ?_)));rintro _ w ⟨rfl,hs⟩;refine .z zpT (.z zm (.bif (t':=39) rfl (fun K7=>?_) (fun K7=>?_)))
     ·refine .T (.z (zfa dB) (.T (.y hs (zld ai) (.T (.o (.call iV rfl (aZ hs) ?_))))));rintro _ w ⟨rfl,hs⟩;refine .z zpT (.z zm (.bif (t':=44) rfl (fun De=>?_) (fun De=>?_)))
      ·refine .T (.z (zfa dk) (.T (.y hs (zld ai) (.T (.o (.call iV rfl (aZ hs) ?_))))));rintro _ w ⟨rfl,hs⟩;refine .z zpT (.zn zg (.ret (Fin.bw yH rfl ?_)));first
       |exact ⟨false,rfl,⟨fun h=>(by cases h),fun h=>(by obtain ⟨g1,g2,g3,g4,g5,g6,g7⟩:=h;simp_all;done)⟩,hs.out⟩
       |exact ⟨_,rfl,⟨fun h=>⟨by simp_all,by simp_all,by simp_all,by simp_all,by simp_all,by simp_all,by simpa using h⟩,fun h=>by simpa using h.day⟩,hs.out⟩
      ·refine .Fs 3 39 true (.z zpF (.zn zg (.ret (Fin.bw yH rfl ?_))));first
       |exact ⟨false,rfl,⟨fun h=>(by cases h),fun h=>(by obtain ⟨g1,g2,g3,g4,g5,g6,g7⟩:=h;simp_all;done)⟩,hs.out⟩
       |exact ⟨_,rfl,⟨fun h=>⟨by simp_all,by simp_all,by simp_all,by simp_all,by simp_all,by simp_all,by simpa using h⟩,fun h=>by simpa using h.day⟩,hs.out⟩
     ·refine .Fs 3 34 true (.z zpF (.z zm (.Fs 3 39 true (.z zpF (.zn zg (.ret (Fin.bw yH rfl ?_)))))));first
      |exact ⟨false,rfl,⟨fun h=>(by cases h),fun h=>(by obtain ⟨g1,g2,g3,g4,g5,g6,g7⟩:=h;simp_all;done)⟩,hs.out⟩
      |exact ⟨_,rfl,⟨fun h=>⟨by simp_all,by simp_all,by simp_all,by simp_all,by simp_all,by simp_all,by simpa using h⟩,fun h=>by simpa using h.day⟩,hs.out⟩
    ·refine .Fs 6 26 true (.z zpF (.z zm (.Fs 3 34 true (.z zpF (.z zm (.Fs 3 39 true (.z zpF (.zn zg (.ret (Fin.bw yH rfl ?_))))))))));first
     |exact ⟨false,rfl,⟨fun h=>(by cases h),fun h=>(by obtain ⟨g1,g2,g3,g4,g5,g6,g7⟩:=h;simp_all;done)⟩,hs.out⟩
     |exact ⟨_,rfl,⟨fun h=>⟨by simp_all,by simp_all,by simp_all,by simp_all,by simp_all,by simp_all,by simpa using h⟩,fun h=>by simpa using h.day⟩,hs.out⟩
   ·refine .Fs 3 21 true (.z zpF (.z zm (.Fs 6 26 true (.z zpF (.z zm (.Fs 3 34 true (.z zpF (.z zm (.Fs 3 39 true (.z zpF (.zn zg (.ret (Fin.bw yH rfl ?_)))))))))))));first
    |exact ⟨false,rfl,⟨fun h=>(by cases h),fun h=>(by obtain ⟨g1,g2,g3,g4,g5,g6,g7⟩:=h;simp_all;done)⟩,hs.out⟩
    |exact ⟨_,rfl,⟨fun h=>⟨by simp_all,by simp_all,by simp_all,by simp_all,by simp_all,by simp_all,by simpa using h⟩,fun h=>by simpa using h.day⟩,hs.out⟩
  ·refine .Fs 7 12 true (.z zpF (.z zm (.Fs 3 21 true (.z zpF (.z zm (.Fs 6 26 true (.z zpF (.z zm (.Fs 3 34 true (.z zpF (.z zm (.Fs 3 39 true (.z zpF (.zn zg (.ret (Fin.bw yH rfl ?_))))))))))))))));first
   |exact ⟨false,rfl,⟨fun h=>(by cases h),fun h=>(by obtain ⟨g1,g2,g3,g4,g5,g6,g7⟩:=h;simp_all;done)⟩,hs.out⟩
   |exact ⟨_,rfl,⟨fun h=>⟨by simp_all,by simp_all,by simp_all,by simp_all,by simp_all,by simp_all,by simpa using h⟩,fun h=>by simpa using h.day⟩,hs.out⟩
 ·refine .Fs 7 3 true (.z zpF (.z zm (.Fs 7 12 true (.z zpF (.z zm (.Fs 3 21 true (.z zpF (.z zm (.Fs 6 26 true (.z zpF (.z zm (.Fs 3 34 true (.z zpF (.z zm (.Fs 3 39 true (.z zpF (.zn zg (.ret (Fin.bw yH rfl ?_)))))))))))))))))));first
  |exact ⟨false,rfl,⟨fun h=>(by cases h),fun h=>(by obtain ⟨g1,g2,g3,g4,g5,g6,g7⟩:=h;simp_all;done)⟩,hs.out⟩
  |exact ⟨_,rfl,⟨fun h=>⟨by simp_all,by simp_all,by simp_all,by simp_all,by simp_all,by simp_all,by simpa using h⟩,fun h=>by simpa using h.day⟩,hs.out⟩
theorem mw{w:World}{c:Cmp}(hs:St H w σ):
  TN 104 [.agg #[I c.src,I c.tape,I c.fr,I c.to,I c.lo,I c.hi]] w fun v w'=>∃b:Bool,v= .bool b∧(b=true↔pz c)∧St H w' σ:=by
 refine Cl.o func104 ntmps104 ag1 ?_;refine .af (.bx hs fun b1 w hs=>?_);refine .zn zg (.af (.z (zfa eM) (.y hs (zld ai) (.o (.call call86 rfl (gx hs) ?_)))));rintro _ w ⟨rfl,hs⟩;refine .z zm (.bif (t':=6) rfl (fun O6=>?_) (fun O6=>?_))
 ·refine .T (.z (zfa ik) (.T (.y hs (zld ai) (.T (.o (.call iV rfl (aZ hs) ?_))))));rintro _ w ⟨rfl,hs⟩;refine .z zpT (.z zm (.bif (t':=11) rfl (fun FE=>?_) (fun FE=>?_)))
  ·refine .T (.z (zfa fN) (.T (.y hs (zld ai) (.T (.z (zfa eL) (.T (.y hs (zld ai) (.T (.o (.call iV rfl (aZ hs) ?_))))))))));rintro _ w ⟨rfl,hs⟩;refine .z zpT (.z zm (.bif (t':=18) rfl (fun Rr=>?_) (fun Rr=>?_)))
   ·refine .T (.z (zfa eL) (.T (.y hs (zld ai) (.T (.o (.call iV rfl (aZ hs) ?_))))));rintro _ w ⟨rfl,hs⟩;refine .z zpT (.z zm (.bif (t':=23) rfl (fun A6=>?_) (fun A6=>?_)))
    ·refine .T (.z (zfa fM) (.T (.y hs (zld ai) (.T (.z (zfa eK) (.T (.y hs (zld ai) (.T (.o (.call iV rfl (aZ hs) ?_))))))))));rintro _ w ⟨rfl,hs⟩;refine .z zpT (.z zm (.bif (t':=30) rfl (fun K8=>?_) (fun K8=>?_)))
     ·refine .T (.z (zfa eK) (.T (.y hs (zld ai) (.T (.o (.call iV rfl (aZ hs) ?_))))));rintro _ w ⟨rfl,hs⟩;refine .z zpT (.zn zg (.ret (Fin.bw IY rfl ?_)));first
      |exact ⟨false,rfl,⟨fun h=>(by cases h),fun h=>(by obtain ⟨g1,g2,g3,g4,g5,g6⟩:=h;simp_all;omega)⟩,hs.out⟩
      |exact ⟨false,rfl,⟨fun h=>(by cases h),fun h=>(by obtain ⟨g1,g2,g3,g4,g5,g6⟩:=h;simp_all;done)⟩,hs.out⟩
      |exact ⟨_,rfl,⟨fun h=>⟨by simp_all,by simp_all,by simp_all,by simp_all,by simp_all,(by simpa using h:_∧_).2⟩,fun h=>by have:=h.lo;have:=h.hi;simp;omega⟩,hs.out⟩
     ·refine .Fs 3 27 true (.z zpF (.zn zg (.ret (Fin.bw IY rfl ?_))));first
      |exact ⟨false,rfl,⟨fun h=>(by cases h),fun h=>(by obtain ⟨g1,g2,g3,g4,g5,g6⟩:=h;simp_all;omega)⟩,hs.out⟩
      |exact ⟨false,rfl,⟨fun h=>(by cases h),fun h=>(by obtain ⟨g1,g2,g3,g4,g5,g6⟩:=h;simp_all;done)⟩,hs.out⟩
      |exact ⟨_,rfl,⟨fun h=>⟨by simp_all,by simp_all,by simp_all,by simp_all,by simp_all,(by simpa using h:_∧_).2⟩,fun h=>by have:=h.lo;have:=h.hi;simp;omega⟩,hs.out⟩
    ·refine .Fs 5 20 true (.z zpF (.z zm (.Fs 3 27 true (.z zpF (.zn zg (.ret (Fin.bw IY rfl ?_)))))));first
     |exact ⟨false,rfl,⟨fun h=>(by cases h),fun h=>(by obtain ⟨g1,g2,g3,g4,g5,g6⟩:=h;simp_all;omega)⟩,hs.out⟩
     |exact ⟨false,rfl,⟨fun h=>(by cases h),fun h=>(by obtain ⟨g1,g2,g3,g4,g5,g6⟩:=h;simp_all;done)⟩,hs.out⟩
     |exact ⟨_,rfl,⟨fun h=>⟨by simp_all,by simp_all,by simp_all,by simp_all,by simp_all,(by simpa using h:_∧_).2⟩,fun h=>by have:=h.lo;have:=h.hi;simp;omega⟩,hs.out⟩
   ·refine .Fs 3 15 true (.z zpF (.z zm (.Fs 5 20 true (.z zpF (.z zm (.Fs 3 27 true (.z zpF (.zn zg (.ret (Fin.bw IY rfl ?_))))))))));first
    |exact ⟨false,rfl,⟨fun h=>(by cases h),fun h=>(by obtain ⟨g1,g2,g3,g4,g5,g6⟩:=h;simp_all;omega)⟩,hs.out⟩
    |exact ⟨false,rfl,⟨fun h=>(by cases h),fun h=>(by obtain ⟨g1,g2,g3,g4,g5,g6⟩:=h;simp_all;done)⟩,hs.out⟩
    |exact ⟨_,rfl,⟨fun h=>⟨by simp_all,by simp_all,by simp_all,by simp_all,by simp_all,(by simpa using h:_∧_).2⟩,fun h=>by have:=h.lo;have:=h.hi;simp;omega⟩,hs.out⟩
  ·refine .Fs 5 8 true (.z zpF (.z zm (.Fs 3 15 true (.z zpF (.z zm (.Fs 5 20 true (.z zpF (.z zm (.Fs 3 27 true (.z zpF (.zn zg (.ret (Fin.bw IY rfl ?_)))))))))))));first
   |exact ⟨false,rfl,⟨fun h=>(by cases h),fun h=>(by obtain ⟨g1,g2,g3,g4,g5,g6⟩:=h;simp_all;omega)⟩,hs.out⟩
   |exact ⟨false,rfl,⟨fun h=>(by cases h),fun h=>(by obtain ⟨g1,g2,g3,g4,g5,g6⟩:=h;simp_all;done)⟩,hs.out⟩
   |exact ⟨_,rfl,⟨fun h=>⟨by simp_all,by simp_all,by simp_all,by simp_all,by simp_all,(by simpa using h:_∧_).2⟩,fun h=>by have:=h.lo;have:=h.hi;simp;omega⟩,hs.out⟩
 ·refine .Fs 3 3 true (.z zpF (.z zm (.Fs 5 8 true (.z zpF (.z zm (.Fs 3 15 true (.z zpF (.z zm (.Fs 5 20 true (.z zpF (.z zm (.Fs 3 27 true (.z zpF (.zn zg (.ret (Fin.bw IY rfl ?_))))))))))))))));first
  |exact ⟨false,rfl,⟨fun h=>(by cases h),fun h=>(by obtain ⟨g1,g2,g3,g4,g5,g6⟩:=h;simp_all;omega)⟩,hs.out⟩
  |exact ⟨false,rfl,⟨fun h=>(by cases h),fun h=>(by obtain ⟨g1,g2,g3,g4,g5,g6⟩:=h;simp_all;done)⟩,hs.out⟩
  |exact ⟨_,rfl,⟨fun h=>⟨by simp_all,by simp_all,by simp_all,by simp_all,by simp_all,(by simpa using h:_∧_).2⟩,fun h=>by have:=h.lo;have:=h.hi;simp;omega⟩,hs.out⟩
theorem lC{w:World}{vst vwa:Value}(hs:St H w σ)(h1:RI H vst s.st)(h2:RI H vwa s.wa)(hb:s.st.length≤1000∧s.wa.length≤1000):
  TN 112 [.agg #[I s.id,I s.src,vst,vwa,I s.al,I s.up]] w fun v w'=>v=I (s.many:Int)∧St H w' σ:=by
 obtain ⟨ast,cst,rfl⟩:=RI.shape h1;obtain ⟨awa,cwa,rfl⟩:=RI.shape h2;have hm:=mO (a:=(s.st.length:Int)) (b:=(s.wa.length:Int)) (A:=1000) (B:=1000) aj aj;refine Cl.o func112 ntmps112 ag1 ?_;refine .af (.bx hs fun b1 w hs=>?_);exact .zn zg (.af (.z (zfa a8) (.y hs (zld an) (.z (cH ae) (.z (zfa aR) (.y hs (zld an) (.z (cH ae) (.z mm (.zn zg (.ret (Fin.bw results112 rfl ⟨by unfold Spc.many;rw [Int.natCast_mul],hs.out⟩)))))))))))
theorem nJ{w:World}{vst vwa:Value}{b:Int}(hs:St H w σ)(h2:RI H vwa s.wa)(hb:s.wa.length≤1000)(ha: -1000≤a∧a≤1000)(hb': -1000≤b∧b≤1000):
  TN 187 [.agg #[I s.id,I s.src,vst,vwa,I s.al,I s.up],I a,I b] w fun v w'=>v=I (1+a*s.wa.length+b)∧St H w' σ:=by
 obtain ⟨awa,cwa,rfl⟩:=RI.shape h2;have hm:=mO (a:=a) (b:=(s.wa.length:Int)) (A:=1000) (B:=1000) aj aj;refine Cl.o func187 ntmps187 ag3 ?_;refine .af (.bx hs fun b3 w hs=>?_);exact .zn zg (.af (.z zm (.z (zfa aR) (.y hs (zld an) (.z (cH ae) (.z mm (.z cP (.z zm (.z cP (.zn zg (.ret (Fin.bw results187 rfl ⟨rfl,hs.out⟩))))))))))))
theorem iz{w:World}{r:Rdg}(hs:St H w σ):
  TN 181 [.agg #[I r.src,I r.st,I r.wa,I r.val,I r.tol,I r.tape,I r.day]] w fun v w'=>v= .agg #[I r.tape,I r.day]∧St H w' σ:=by
 refine Cl.o func181 ntmps181 ag1 ?_;refine .af (.bx hs fun b1 w hs=>?_);refine .o (.alloc hs qI rfl fun b2 w hs=>?_);refine .nil (.af (.z (zfa dB) (.y hs (zld ai) (.z (zfa dk) (.y hs (zld ai) (.z (zbd [_,_] gH) (.o (.aS (vs:=[_,_]) hs rfl rfl bP fun w hs=>?_))))))));exact .nil (.ret (Fin.kY [] [] hs fun w hs=>⟨_,results1 results181 (fq (vs:=[_,_]) hs rfl gK bP),rfl,hs.out⟩))
theorem lE{w:World}{b:Int}(hs:St H w σ)(ha:0≤a∧a≤100000)(hb:0≤b∧b≤100000):
  TN 183 [I a,I b] w fun v w'=>v=I (jL a b)∧St H w' σ:=by
 have hm:=mO (a:=a) (b:=b) (A:=100000) (B:=100000) aj aj;have h0:=Int.mul_nonneg ha.1 hb.1;have LM:0≤(a*b+999).tdiv 1000:=Int.tdiv_nonneg aj aj;have Jo:(a*b+999).tdiv 1000≤a*b+999:=by rw [Int.tdiv_eq_ediv_of_nonneg aj];omega
 refine Cl.o func183 ntmps183 ag2 ?_;exact .af (.zn zg (.af (.z zm (.z zm (.z mm (.z cP (.q hs (BD rfl rfl aj aj) (.z Gy (.zn zg (.ret (Fin.bw results183 rfl ⟨rfl,hs⟩)))))))))))
def wP(s:Spc):List (List Value):=(List.range s.many).map fun p=>[Value.agg #[I ((p/s.wa.length:Nat):Int),I ((p%s.wa.length:Nat):Int),I ((p+1:Nat):Int)]]
theorem dy(s:Spc):(wP s).length=s.many:=by simp [wP]
theorem l9{p:Nat}(h:p<(wP s).length):(wP s)[p]=[Value.agg #[I ((p/s.wa.length:Nat):Int),I ((p%s.wa.length:Nat):Int),I ((p+1:Nat):Int)]]:=by simp [wP]
theorem pV{vst vwa:Value}(hb:Row H b [I s.id,I s.src,vst,vwa,I s.al,I s.up])(h1:RI H vst s.st)(h2:RI H vwa s.wa)(BY:s.st.length≤1000∧s.wa.length≤1000):
  Iter Tryz.prog 92 [Pt b] H (wP s):=by
 intro ly II Ix Ak _ hy H0 Cr σf w hle zK hs;obtain ⟨ast,cst,rfl⟩:=RI.shape h1;obtain ⟨awa,cwa,rfl⟩:=RI.shape h2;have g2:cellAt H0 b 2=some (.slice ast s.st.length cst):=cellAt.mono (hb.at 2) hle;have g3:cellAt H0 b 3=some (.slice awa s.wa.length cwa):=cellAt.mono (hb.at 3) hle;have hm:s.many≤1000000:=Nat.mul_le_mul BY.1 BY.2;refine Cl.o func92 ntmps92 ag2 ?_;refine .af (.zn zg (.af (.z (zfa a8) (.y hs (zld an) (.z (cH ae) (.zn zm (.for (N:=s.st.length) (J:=fun i fr w=>fr=[(3,I ((i*s.wa.length:Nat):Int)),(0,.func (.yield ly) #[] #[]),(1,Pt b)]∧∃H1 σb,HLe H H1∧HLe H0 H1∧II (i*s.wa.length) H1 σb∧St H1 w (σb++σf)) aj ?_ ?_ ?_)))))))
 ·exact .mk ⟨by rw [Nat.zero_mul],H0,Cr,hle,HLe.refl _,by rw [Nat.zero_mul];exact zK,hs⟩
 ·rintro i fr w hi ⟨rfl,H1,σb,aq,eU,hI,hs⟩;have h23:=cellAt.mono g3 eU;refine .block (.af (.z zm (.zn zg (.af (.z (zfa aR) (.y hs (zld an) (.z (cH ae) (.zn zm (.for (N:=s.wa.length) (J:=fun k fr w=>fr=[(3,I ((i*s.wa.length+k:Nat):Int)),(4,I (i:Int)),(9,I (i:Int)),(8,I (s.st.length:Int)),(0,.func (.yield ly) #[] #[]),(1,Pt b)]∧∃H3 σb,HLe H1 H3∧II (i*s.wa.length+k) H3 σb∧St H3 w (σb++σf)) aj ?_ ?_ ?_)))))))))
  ·exact .mk ⟨rfl,H1,σb,HLe.refl _,hI,hs⟩
  ·rintro k fr w hk ⟨rfl,H3,Gx,bO,FJ,hs⟩;obtain ⟨d1,d2⟩:=Mg (nw:=s.wa.length) (i:=i) (k:=k) hk;have fu:=SF hi hk;refine .block (.af (.z zm (.zn zg (.af (.z zm (.z cP (.zn zg (.af (.z zm (.z zm (.z zm (.z zm (.z (zbd [_,_,_] qw) ?_)))))))))))));have Am:i*s.wa.length+k<(wP s).length:=by rw [dy];exact fu
   have xH:=hy (i*s.wa.length+k) Am H3 Gx σf w (aq.trans bO) FJ hs;rw [l9 Am,d1,d2,show ((i*s.wa.length+k+1:Nat):Int)=((i*s.wa.length+k:Nat):Int)+1 by omega] at xH;refine .o (.yield rfl rfl xH ?_);rintro v25 w ⟨H5,σ5,g1,hs,g3'⟩;obtain ⟨bb,rfl,gT,gF⟩:=oA g3';refine .zn iW (.cond rfl (fun iJ=>?_) (fun iJ=>?_))
   ·exact .ret (rB (rT (rB (rB (rT (rB (Fin.Mp results92 ⟨H5,σ5,eU.trans (bO.trans g1),hs,.inr (gF (by simpa using iJ))⟩)))))))
   ·exact .skip (nB (nT (.mk ⟨rfl,H5,σ5,bO.trans g1,gT (by simpa using iJ),hs⟩)))
  ·rintro fr w ⟨rfl,H3,Gx,bO,FJ,hs⟩;have e:i*s.wa.length+s.wa.length=(i+1)*s.wa.length:=by rw [Nat.add_mul,Nat.one_mul]
   rw [e] at FJ ⊢;exact nB (nT (.mk ⟨rfl,H3,Gx,aq.trans bO,eU.trans bO,FJ,hs⟩))
 ·rintro fr w ⟨rfl,H1,σb,aq,eU,hI,hs⟩;exact Fin.uX results92 ⟨H1,σb,eU,hs,.inl (by rw [dy];exact hI)⟩
theorem eG{w:World}{vst vwa:Value}(hs:St H w σ)(h1:RI H vst s.st)(h2:RI H vwa s.wa)(BY:s.st.length≤1000∧s.wa.length≤1000):
  TN 44 [.agg #[I s.id,I s.src,vst,vwa,I s.al,I s.up]] w fun u w'=>∃H1 b,HLe H H1∧u= .func (.func 92) #[] #[Pt b]∧Iter Tryz.prog 92 [Pt b] H1 (wP s)∧St H1 w' σ:=by
 obtain ⟨ast,cst,rfl⟩:=RI.shape h1;obtain ⟨awa,cwa,rfl⟩:=RI.shape h2;refine Cl.o func44 ntmps44 ag1 ?_;refine .af (.bx hs fun b1 w hs=>?_);refine .zn zg (.af (.q hs (dt (f:=[]) (c:=[_]) rfl rfl) (.zn zg (.ret (Fin.bw results44 rfl ?_)))));obtain ⟨H1,g1,g2,hs⟩:=hs.bK .here;exact ⟨H1,b1,g1,rfl,pV g2 (h1.mono g1) (h2.mono g1) BY,hs⟩
set_option maxRecDepth 100000 in
theorem sW:Tryz.prog.stoodInHeld 127=false:=by kernel_rfl
set_option maxRecDepth 100000 in
theorem sX:Tryz.prog.eqGuardType Tryz.prog.depth 127=false:=by kernel_rfl
theorem oJ{w:World}{v:Value}{xs:List TD}{cap:List Value}(q:TD→Bool)(hs:St H w (en::σ))(hO:bG 2 v (tdc xs).flatten en)(hl:xs.length≤1000000)(hc:∀args w,(callFunc g args).run Tryz.prog w= .ok (.enter g args) w)
  (hp:∀w (t:TD),St H w (en::σ)→TN g ([.agg #[I t.tape,I t.day]]++cap) w fun u w'=>u= .bool (q t)∧St H w' (en::σ)):
  TN 234 [v,.func (.func g) #[] cap.toArray] w fun u w'=>∃i:Int,u=I i∧(0≤i↔∃x∈xs,q x=true)∧St H w' (en::σ):=by
 obtain ⟨a,c,rfl⟩:=hO.iO (oG xs) aj;rw [dJ] at hO ⊢;refine Cl.o func234 ntmps234 ag2 ?_;refine .af (.zn zg (.seq (.af (.z zm (.z (cH br) (.zn zm (.for (N:=xs.length) (J:=fun k fr w=>fr=[(1,.func (.func g) #[] cap.toArray),(0,.slice a xs.length c)]∧(∀j<k,∀y,xs[j]? =some y→¬q y=true)∧St H w (en::σ)) aj ?_ ?_ ?_)))))))
 ·exact .mk ⟨rfl,fun j hj=>by omega,hs⟩
 ·rintro k fr w hk ⟨rfl,iI,hs⟩;obtain ⟨x,hx⟩:=nth hk;obtain ⟨b,c',sp,hv,rfl,_⟩:=hO.L9 (oG xs) aj (by rw [dJ];omega);rw [dJ] at hv;cases hv
  refine .block (.af (.z zm (.zn zg (.af (.z zm (.z zm (.z zm (.z (tk br bP) (.q hs (gw (vs:=x.c) rfl gK bP .here (rV (oG xs) (D4 hx) sp)) (.o (.nm (first:=[]) (cap:=cap) rfl rfl hc (hp _ x hs) ?_)))))))))));rintro _ w ⟨rfl,hs⟩;refine .nil (.cond rfl (fun dX=>?_) (fun dX=>?_))
  ·exact .af (.z zm (.zn zg (.ret (rB (rT (rB (rT (Fin.bw results234 rfl ⟨_,rfl,⟨fun _=>⟨x,List.mem_of_getElem? hx,dX⟩,fun _=>by omega⟩,hs⟩))))))))
  ·exact .skip (nB (nT (.mk ⟨rfl,gq iI hx (by simpa using dX),hs⟩)))
 ·rintro fr w ⟨rfl,iI,hs⟩;refine nT (.af (.zn zg (.ret (Fin.bw results234 rfl ?_))));exact ⟨_,rfl,⟨fun h=>by omega,fun ⟨x,h1,h2⟩=>by
   obtain ⟨j,hj⟩:=List.getElem?_of_mem h1;exact (iI j (List.getElem?_eq_some_iff.1 hj).1 x hj h2).elim⟩,hs⟩
theorem mu{w:World}{v:Value}{xs:List TD}{cap:List Value}(q:TD→Bool)(hs:St H w (en::σ))(hO:bG 2 v (tdc xs).flatten en)(hl:xs.length≤1000000)(hc:∀args w,(callFunc g args).run Tryz.prog w= .ok (.enter g args) w)
  (hp:∀w (t:TD),St H w (en::σ)→TN g ([.agg #[I t.tape,I t.day]]++cap) w fun u w'=>u= .bool (q t)∧St H w' (en::σ)):
  TN 179 [v,.func (.func g) #[] cap.toArray] w fun u w'=>∃b:Bool,u= .bool b∧(b=true↔∃x∈xs,q x=true)∧St H w' (en::σ):=by
 refine Cl.o func179 ntmps179 ag2 ?_;refine .af (.zn zg (.af (.z zm (.z zm (.o (.call call234 rfl (oJ q hs hO hl hc hp) ?_))))));rintro _ w ⟨i,rfl,hi,hs⟩;exact .z Bq (.zn zg (.ret (Fin.bw results179 rfl ⟨_,rfl,by simp only [decide_eq_true_eq];exact hi,hs⟩)))
theorem tC{w:World}{v:Value}{xs:List TD}(hs:St H w σ)(hr:RTd H v xs)(hl:xs.length≤1000000):
  TN 186 [v,.agg #[I t.tape,I t.day]] w fun u w'=>u=I (jH xs t)∧St H w' σ:=by
 obtain ⟨a,c,rfl⟩:=RTd.shape hr;refine Cl.o func186 ntmps186 ag2 ?_;refine .af (.bx hs fun b3 w hs=>?_);refine .zn zg (.seq (.af (.z zm (.z (cH br) (.zn zm (.for (N:=xs.length) (J:=fun k fr w=>fr=[(0,.slice a xs.length c),(3,Pt b3)]∧(∀j<k,∀y,xs[j]? =some y→¬y=t)∧St H w (.blk b3 [I t.tape,I t.day]::σ)) aj ?_ ?_ ?_))))))
 ·exact .mk ⟨rfl,fun j hj=>by omega,hs⟩
 ·rintro k fr w hk ⟨rfl,iI,hs⟩;obtain ⟨x,hx⟩:=nth hk;refine .block (.af (.z zm (.zn zg (.seq (.draw mix rfl hs fun w hs=>?_)))));refine .ys 0 rfl hs [_,_] gK bP ?_;refine .z 1 rfl zm ?_;refine .z 2 rfl zm ?_;refine .ixX (enc:=TD.c) (i:=3) hs rfl az .none hr rfl rfl br bP hx dG ?_;intro vQ o14 gY;refine .r (i:=4) hs rfl az .none (bE (vs:=x.c) rfl gK bP gY) ?_;refine .z 5 rfl (tM sW sX j7 (fun f hf=>by
   simp only [List.mem_cons,List.not_mem_nil,or_false] at hf
   rcases hf with rfl|rfl<;>exact ⟨by decide,aF,ai⟩) rfl rfl) ?_
  refine .D hs (.cond rfl (fun dX=>?_) (fun dX=>?_))
  ·refine .af (.z zm (.zn zg (.ret (rB (rT (rB (rT (Fin.bw results186 rfl ?_))))))));have e:x=t:=GK.1 (by have:=of_decide_eq_true dX;exact ⟨this.1.symm,this.2.symm⟩);subst e;exact ⟨by rw [pI hx fun j hj h=>iI j hj _ h rfl],hs.tail⟩
  ·exact .skip (nB (nT (.mk ⟨rfl,gq iI hx (fun e=>by subst e;simp at dX),hs⟩)))
 ·rintro fr w ⟨rfl,iI,hs⟩;exact nT (.af (.zn zg (.ret (Fin.bw results186 rfl ⟨by rw [w6 iI],hs.tail⟩))))
theorem nK{w:World}{r:Rdg}(hs:St H w σ)(hb:Row H b r.c):
  TN 180 [.agg #[I t.tape,I t.day],Pt b] w fun u w'=>u= .bool (decide (t=r.td))∧St H w' σ:=by
 have FG:bB H b 0 r.c:=hb.cells 0 r.c;refine Cl.o func180 ntmps180 ag2 ?_;refine .af (.bx hs fun b2 w hs=>?_);refine .zn zg (.seq (.draw mix rfl hs fun w hs=>?_));refine .ys 0 rfl hs [_,_] gK bP ?_;refine .ys 1 rfl hs [_,_,_,_,_,_,_] fY bh ?_;refine .E 2 hs ?_;refine .call call181 rfl (iz hs) ?_;rintro _ w ⟨rfl,hs⟩;refine .go ?_;refine .z 3 rfl (tM sW sX j7 (fun f hf=>by
  simp only [List.mem_cons,List.not_mem_nil,or_false] at hf
  rcases hf with rfl|rfl<;>exact ⟨by decide,aF,ai⟩) rfl rfl) ?_
 refine .zw 4 rfl zg ?_;refine .D hs ?_;exact .ret (Fin.bw results180 rfl ⟨by congr 1;rw [decide_eq_decide];exact GK (t:=t) (u:=r.td),hs.tail⟩)
set_option maxHeartbeats 1000000 in
theorem q9{w:World}{s:Srv}{vst vwa:Value}(hs:St H w σ)(hr:RRd H vr s.rs)(hl:s.rs.length≤1000000):
  TN 105 [.agg #[I s.sp.id,I s.sp.src,vst,vwa,I s.sp.al,I s.sp.up,vr,vc]] w fun u w'=>∃H1 en,HLe H H1∧bG 2 u (tdc s.bD).flatten en∧St H1 w' (en::σ):=by
 obtain ⟨ar,cr,rfl⟩:=RRd.shape hr;refine Cl.o func105 ntmps105 ag1 ?_;refine .af (.bx hs fun b1 w hs=>?_);refine .zn zg (.af (.zn zg (.seq (.af (.z (zfa aN) (.y hs (zld dT) (.z (cH aO) (.zn zm (.for (N:=s.rs.length) (J:=fun k fr w=>∃vo en H1,fr=[(7,.slice ar s.rs.length cr),(3,vo)]∧HLe H H1∧bG 2 vo (tdc (aK (s.rs.take k))).flatten en∧St H1 w (en::σ)) aj ?_ ?_ ?_)))))))))
 ·exact .mk ⟨_,.nul,H,rfl,HLe.refl _,.nil 2 none,hs.tail.nul⟩
 ·rintro k fr w hk ⟨vo,en,H1,rfl,aq,hO,hs⟩;obtain ⟨r,hx⟩:=nth hk;have E4:=jr hx;have yx:=kf s.rs k aj;obtain ⟨ao,co,rfl⟩:=hO.iO (oG _) aj;rw [dJ] at hO ⊢;refine .block (.af (.ixX (enc:=Rdg.c) hs (hr.mono aq) rfl rfl aO bh hx dG ?_));intro Dv o11 uo;refine .q hs (bE (vs:=(Rdg.c r)) rfl fY bh uo) (.o (.alloc hs iE rfl fun b5 w hs=>?_));refine .o (.aS (vs:=r.c) hs rfl rfl bh fun w hs=>?_);obtain ⟨H2,aW,r5,hs⟩:=hs.bK (b:=b5) (c:=r.c) .here;have c5:bB H2 b5 0 r.c:=r5.cells 0 r.c;refine .nil (.af (.z zm (.q hs (dt (f:=[]) (c:=[_]) rfl rfl) (.o (.call call179 rfl (mu (g:=180) (cap:=[Pt b5]) (fun t=>decide (t=r.td)) hs hO aj call180 (fun w t hs=>nK hs r5)) ?_)))));rintro _ w ⟨IS,rfl,zH,hs⟩;refine .zn iW (.cond rfl (fun dX=>?_) (fun dX=>?_))
  ·refine .region (.z zm (.q hs (bE (vs:=r.c) rfl fY bh c5) (.o (.call call181 rfl (iz (r:=r) hs) ?_))));rintro _ w ⟨rfl,hs⟩;refine .o (.buildSlice (cells:=[_,_]) hs gV rfl rfl fun Pu w hs=>?_);refine .o (.append (ys:=r.td.c) hs dS rfl rfl hO (.own .here rfl rfl) (by simp [TD.c,Value.oneCell']) (fun l h=>by rw [bu _ (oG _),dJ] at h;omega) ?_);intro v21 en21 w eH hs;refine .zn zg (nB (nT ?_));have hn:r.td∉aK (s.rs.take k):=fun hm=>by
    rw [zH.2 ⟨_,hm,bj⟩] at dX;cases dX
   rw [←w5,show aK (s.rs.take k)++[r.td]=aK (s.rs.take (k+1)) by rw [E4];unfold qz;rw [if_neg hn]] at eH;exact .mk ⟨_,_,H2,rfl,aq.trans aW,eH,hs.sb⟩
  ·refine .skip (nB (nT ?_));have hm:r.td∈aK (s.rs.take k):=by
    obtain ⟨x,h1,h2⟩:=zH.1 (by simpa using dX);rw [←of_decide_eq_true h2];exact h1
   exact .mk ⟨_,_,H2,rfl,aq.trans aW,by rw [E4];unfold qz;rw [if_pos hm];exact hO,hs⟩
 ·rintro fr w ⟨vo,en,H1,rfl,aq,hO,hs⟩;rw [List.take_length] at hO;exact nT (.af (.z zm (.zn zg (.ret (Fin.bw results105 rfl ⟨H1,en,aq,hO,hs⟩)))))
theorem pS{w:World}{s:Srv}{vst vwa:Value}(hs:St H w σ)(hr:RRd H vr s.rs)(hl:s.rs.length≤1000000):
  TN 105 [.agg #[I s.sp.id,I s.sp.src,vst,vwa,I s.sp.al,I s.sp.up,vr,vc]] w fun u w'=>∃H1,HLe H H1∧RTd H1 u s.bD∧St H1 w' σ:=by
 refine (q9 hs hr hl).mono ?_;rintro u w' ⟨H1,en,aq,hO,hs⟩;have yx:=cW s.rs;have P8:s.bD.length≤1000000:=by unfold Srv.bD;omega
 obtain ⟨H2,aW,hR,hs⟩:=bG.bK (m:=2) hO (oG _) aj (by rw [dJ];omega) hs .here;exact ⟨H2,aq.trans aW,hR,hs⟩
theorem fP{w:World}{x0 x1 x2 x3 x4 x5 x6 x7 x8:Value}{b by_:Int}(hs:St H w (.blk bm [x0,x1,x2,x3,x4,x5,x6,x7,x8,vl]::en::σ))(hO:bG 4 vl (fX ls) en)(hl:ls.length≤100000):
  TN 182 [Pt bm,I a,I b,I hi,I lo,I by_] w fun _ w'=>∃qQ iT,bG 4 qQ (fX (ls++two a b hi lo by_)) iT∧St H w' (.blk bm [x0,x1,x2,x3,x4,x5,x6,x7,x8,qQ]::iT::σ):=by
 obtain ⟨al,ll,cl,rfl,h⟩:=hO.shape;refine Cl.of func182 rfl ntmps182 bj (dj (k:=0) rfl (dj (k:=1) rfl (dj (k:=2) rfl (dj (k:=3) rfl (dj (k:=4) rfl (dj (k:=5) rfl (vR))))))) (.region (.z zm (.z zm (.z znc (.z (zfa iQ) (.y hs (zld fJ) (.z zm (.z zm (.z zm (.z zm (.z (zbd [_,_,_,_] dm) (.z zm (.z zm (.z zm (.z zm (.z (zbd [_,_,_,_] dm) (.o (.buildSlice (cells:=fX (two a b hi lo by_)) hs dU rfl az fun wN w hs=>?_))))))))))))))))));refine .o (.append (ys:=fX (two a b hi lo by_)) hs bQ rfl rfl hO (.own .here rfl rfl) (kx _) (fun l h=>by rw [ez] at h;omega) ?_);intro v28 en28 w eH hs;rw [←iD] at eH;obtain ⟨a28,l28,c28,rfl,h28⟩:=eH.shape;refine .z znc (.z (zfa iQ) (.o (.store hs rfl rfl sizeOf110 fun w hs=>?_)));exact .nil (Fin.uX results182 ⟨_,_,eH,hs.sb⟩)
theorem ki{w:World}{vst vwa x6 x7 x8:Value}{j:Int}(hs:St H w σ)(hm:Mem σ (.blk bm [I s.id,I s.src,vst,vwa,I s.al,I s.up,x6,x7,x8,vl]))(h1:RI H vst s.st)(h2:RI H vwa s.wa)(hb:s.st.length≤1000∧s.wa.length≤1000)(hj: -1≤j∧j≤1000):
  TN 184 [Pt bm,I j] w fun u w'=>u=I ((s.many:Int)+1+j)∧St H w' σ:=by
 have Js:s.many≤1000000:=Nat.mul_le_mul hb.1 hb.2;refine Cl.o func184 ntmps184 ag2 ?_;refine .af (.zn zg (.af (.z zm (.z znc (.z (zfa cS) (.z (zfa aU) (.q hs (gw (vs:=[I s.id,I s.src,vst,vwa,I s.al,I s.up]) rfl bg aJ hm) (.o (.call call112 rfl (lC (s:=s) hs h1 h2 hb) ?_)))))))));rintro _ w ⟨rfl,hs⟩;exact .z cP (.z zm (.z cP (.zn zg (.ret (Fin.bw results184 rfl ⟨rfl,hs⟩)))))
theorem fc(h:fm s):s.st.length≤1000∧s.wa.length≤1000∧0<s.wa.length∧s.many≤63:=by
 have h1:=h.st.many;have h2:=h.wa.many;have h3:=h.wa.two;have:s.many≤9*7:=Nat.mul_le_mul h1 h2;omega
theorem oS{w:World}{s:Srv}{vst vwa:Value}(hs:St H w (.blk bm [I s.sp.id,I s.sp.src,vst,vwa,I s.sp.al,I s.sp.up,vr,vc,vt,vl]::en::σ))(hk:MkK H s ts vst vwa vr vc vt)(hO:bG 4 vl (fX ls) en)(hl:ls.length≤10000)(bq:fm s.sp):
  TN 106 [Pt bm] w fun _ w'=>∃H1 qQ iT,HLe H H1∧bG 4 qQ (fX (ls++dE (qn s.sp) s.sp.wa.length s.sp.st.length)) iT∧St H1 w' (.blk bm [I s.sp.id,I s.sp.src,vst,vwa,I s.sp.al,I s.sp.up,vr,vc,vt,qQ]::iT::σ):=by
 have oY:=fc bq;refine Cl.o func106 ntmps106 ag1 ?_;refine .af (.bx hs fun b1 w hs=>?_);refine .nil (.af (.y hs (zld J2) (.z znc (.z (zfa cS) (.z (zfa aU) (.y hs (zls [_,_,_,_,_,_] bg aJ) (.o (.call call44 rfl (eG (s:=s.sp) hs hk.st hk.wa ⟨aj,aj⟩) ?_))))))));rintro _ w ⟨H1,ba,aq,rfl,oh,hs⟩;refine .nil (.block ?_);refine .rangeFunc (gf:=92) (cap:=[Pt ba]) (xs:=wP s.sp) (σb:=[.blk bm [I s.sp.id,I s.sp.src,vst,vwa,I s.sp.al,I s.sp.up,vr,vc,vt,vl],en,.blk b1 [Pt bm]]) (σf:=σ) (hs.sb) trivial rfl oh call92 (fun x hx=>by
   simp only [wP,List.mem_map] at hx;obtain ⟨j,_,rfl⟩:=hx;rfl) rfl
  (I:=fun p H' σb=>∃vl en,σb=[.blk bm [I s.sp.id,I s.sp.src,vst,vwa,I s.sp.al,I s.sp.up,vr,vc,vt,vl],en,.blk b1 [Pt bm]]∧bG 4 vl (fX (ls++pX (qn s.sp) s.sp.wa.length p)) en) (Ix:=fun _ _ _=>False)
  (fun j _ _ σ g1 g2=>g2) (fun _ _ _ _ _ h=>h) ⟨vl,en,rfl,by rw [nC,List.append_nil];exact hO⟩ ?_ ?_ (fun D c H' σb w _ h _=>h.elim)
 ·rintro ly p hp H2 vZ tj w aW ⟨vl,en,rfl,hO⟩ hs ⟨rr,E9⟩;have DL:p<s.sp.many:=by rw [dy] at hp;exact hp
  have mh:=nD (qn s.sp) (p:=p) oY.2.2.1;have Gr:=ju (lX s.sp) oY.2.2.1 p;have fh:p/s.sp.wa.length<s.sp.st.length:=Nat.div_lt_of_lt_mul (by rw [Nat.mul_comm];exact DL);have HT:=Nat.mod_lt p oY.2.2.1;have Nw:=Nat.div_add_mod p s.sp.wa.length;rw [Nat.mul_comm] at Nw;have hu:(s.sp.u (p/s.sp.wa.length) (p%s.sp.wa.length):Int)=(p:Int)+1:=by unfold Spc.u;omega
  rw [l9 hp];obtain ⟨al,ll,cl,rfl,vI⟩:=hO.shape;generalize p/s.sp.wa.length=i at*;generalize p%s.sp.wa.length=k at*;have HU:=hk.mono (aq.trans aW);refine .region (.o (.alloc hs qH rfl fun b2 w hs=>?_));refine .o (.aS (vs:=[_,_,_]) hs rfl rfl DH fun w hs=>?_);refine .nil (nT ⟨H2,[.blk b2 [I (i:Int),I (k:Int),I ((p+1:Nat):Int)],.blk bm [I s.sp.id,I s.sp.src,vst,vwa,I s.sp.al,I s.sp.up,vr,vc,vt,.slice al ll cl],en,.blk b1 [Pt bm]],HLe.refl _,hs,?_⟩);rintro w sV - hs;refine .block (.draw mix rfl hs fun w hs=>?_);refine .y 0 rfl hs J2 ?_;refine .z 1 rfl (zfa dL) ?_;refine .y 2 rfl hs ai ?_;refine .y 3 rfl hs J2 ?_;refine .z 4 rfl znc ?_;refine .z 5 rfl (zfa cS) ?_;refine .z 6 rfl (zfa aU) ?_;refine .z 7 rfl (zfa cn) ?_;refine .y 8 rfl hs ai ?_;refine .E 9 hs ?_;refine .call call182 rfl (fP (ls:=ls++pX (qn s.sp) s.sp.wa.length p) (hs.sb:St H2 w (.blk bm _::en:: .blk b1 _::sV)) hO (by rw [List.length_append];omega)) ?_;rintro _ w ⟨vl3,en3,jy,hs⟩;rw [show two 0 ((p+1:Nat):Int) 20000 0 s.sp.src=qn s.sp i k by unfold qn;rw [hu];rfl,List.append_assoc,←mh] at jy;exact .go (.D hs (nB ⟨H2,_,HLe.refl _,hs,_,_,rfl,jy⟩))
 ·rintro D H2 vZ w aW ⟨vl,en,rfl,hO⟩ hs;rw [dy,show s.sp.many=s.sp.st.length*s.sp.wa.length from rfl,pW _ oY.2.2.1] at hO;exact nB (Fin.Pf [D] [] hs fun w hs=>⟨_,results0 results106,H2,vl,en,aq.trans aW,hO,(hs.sb:St H2 w (.blk bm _::en::σ))⟩)
theorem sA{w:World}{s:Srv}{vst vwa:Value}(hs:St H w (.blk bm [I s.sp.id,I s.sp.src,vst,vwa,I s.sp.al,I s.sp.up,vr,vc,vt,vl]::en::σ))(hk:MkK H s ts vst vwa vr vc vt)(hO:bG 4 vl (fX ls) en)(hl:ls.length≤10000)(bq:fm s.sp):
  TN 107 [Pt bm] w fun _ w'=>∃H1 qQ iT,HLe H H1∧bG 4 qQ (fX (ls++dE (alL s.sp) s.sp.wa.length s.sp.st.length)) iT∧St H1 w' (.blk bm [I s.sp.id,I s.sp.src,vst,vwa,I s.sp.al,I s.sp.up,vr,vc,vt,qQ]::iT::σ):=by
 have oY:=fc bq;obtain ⟨ast,cst,rfl⟩:=RI.shape hk.st;obtain ⟨awa,cwa,rfl⟩:=RI.shape hk.wa;refine Cl.o func107 ntmps107 ag1 ?_;refine .af (.bx hs fun b1 w hs=>?_);refine .nil (.af (.y hs (zld J2) (.z znc (.z (zfa cS) (.z (zfa aU) (.y hs (zls [_,_,_,_,_,_] bg aJ) (.o (.alloc hs gn rfl fun b2 w hs=>?_))))))));refine .o (.aS (vs:=[_,_,_,_,_,_]) hs rfl rfl aJ fun w hs=>?_);refine .nil (.af (.y hs (zls [_,_,_,_,_,_] bg aJ) (.o (.call call44 rfl (eG (s:=s.sp) hs hk.st hk.wa ⟨aj,aj⟩) ?_))));rintro _ w ⟨H1,ba,aq,rfl,oh,hs⟩;refine .nil (.block ?_);refine .rangeFunc (gf:=92) (cap:=[Pt ba]) (xs:=wP s.sp) (σb:=[.blk bm [I s.sp.id,I s.sp.src,.slice ast s.sp.st.length cst,.slice awa s.sp.wa.length cwa,I s.sp.al,I s.sp.up,vr,vc,vt,vl],en,.blk b1 [Pt bm],.blk b2 [I s.sp.id,I s.sp.src,.slice ast s.sp.st.length cst,.slice awa s.sp.wa.length cwa,I s.sp.al,I s.sp.up]]) (σf:=σ) (hs.sb) trivial rfl oh call92 (fun x hx=>by
   simp only [wP,List.mem_map] at hx;obtain ⟨j,_,rfl⟩:=hx;rfl) rfl
  (I:=fun p H' σb=>∃vl en,σb=[.blk bm [I s.sp.id,I s.sp.src,.slice ast s.sp.st.length cst,.slice awa s.sp.wa.length cwa,I s.sp.al,I s.sp.up,vr,vc,vt,vl],en,.blk b1 [Pt bm],.blk b2 [I s.sp.id,I s.sp.src,.slice ast s.sp.st.length cst,.slice awa s.sp.wa.length cwa,I s.sp.al,I s.sp.up]]∧bG 4 vl (fX (ls++pX (alL s.sp) s.sp.wa.length p)) en) (Ix:=fun _ _ _=>False)
  (fun j _ _ σ g1 g2=>g2) (fun _ _ _ _ _ h=>h) ⟨vl,en,rfl,by rw [nC,List.append_nil];exact hO⟩ ?_ ?_ (fun D c H' σb w _ h _=>h.elim)
 ·rintro ly p hp H2 vZ tj w aW ⟨vl,en,rfl,hO⟩ hs ⟨rr,E9⟩;have DL:p<s.sp.many:=by rw [dy] at hp;exact hp
  have mh:=nD (alL s.sp) (p:=p) oY.2.2.1;have Gr:=ju (pq s.sp) oY.2.2.1 p;have fh:p/s.sp.wa.length<s.sp.st.length:=Nat.div_lt_of_lt_mul (by rw [Nat.mul_comm];exact DL);have HT:=Nat.mod_lt p oY.2.2.1;have Nw:=Nat.div_add_mod p s.sp.wa.length;rw [Nat.mul_comm] at Nw;have hu:(s.sp.u (p/s.sp.wa.length) (p%s.sp.wa.length):Int)=(p:Int)+1:=by unfold Spc.u;omega
  rw [l9 hp];obtain ⟨al,ll,cl,rfl,vI⟩:=hO.shape;generalize p/s.sp.wa.length=i at*;generalize p%s.sp.wa.length=k at*;have HU:=hk.mono (aq.trans aW);refine .region (.o (.alloc hs qH rfl fun b3 w hs=>?_));refine .o (.aS (vs:=[_,_,_]) hs rfl rfl DH fun w hs=>?_);refine .nil (nT ⟨H2,[.blk b3 [I (i:Int),I (k:Int),I ((p+1:Nat):Int)],.blk bm [I s.sp.id,I s.sp.src,.slice ast s.sp.st.length cst,.slice awa s.sp.wa.length cwa,I s.sp.al,I s.sp.up,vr,vc,vt,.slice al ll cl],en,.blk b1 [Pt bm],.blk b2 [I s.sp.id,I s.sp.src,.slice ast s.sp.st.length cst,.slice awa s.sp.wa.length cwa,I s.sp.al,I s.sp.up]],HLe.refl _,hs,?_⟩);rintro w sV - hs;refine .block (.af (.z (zfa cD) (.y hs (zld ai) (.z cP (.z (zfa a8) (.y hs (zld an) (.z (cH ae) (.zn iG (.cu rfl (fun nN=>?_) (fun nN=>?_))))))))))
  ·refine .seq (.draw mix rfl hs fun w hs=>?_);refine .zw 0 rfl (zfa dM) ?_;refine .z 1 rfl (zfa lT) ?_;refine .y 2 rfl hs ai ?_;refine .z 3 rfl (zfa a8) ?_;refine .y 4 rfl hs an ?_;refine .z 5 rfl (zfa cD) ?_;refine .y 6 rfl hs ai ?_;refine .z 7 rfl cP ?_;have KI:=bq.st.rise i aj;have LM:=bq.st.bd (i:=i) aj;have Jo:=bq.st.bd (i:=i+1) aj;have Il:=bq.al;refine .ixX (enc:=fun x=>[I x]) (i:=8) hs rfl az .none HU.st rfl rfl ae ak (bJ (l:=s.sp.st) (i:=(i+1)) aj) dG ?_;intro Pr o28 jw;replace jw:=bB.one jw;refine .r (i:=9) hs rfl az .none (aQ rfl ai jw) ?_;refine .zw 10 rfl (zfa a8) ?_;refine .y 11 rfl hs an ?_;refine .z 12 rfl (zfa cD) ?_;refine .y 13 rfl hs ai ?_;refine .ixX (enc:=fun x=>[I x]) (i:=14) hs rfl az .none HU.st rfl rfl ae ak (bJ (l:=s.sp.st) (i:=i) aj) dG ?_;intro Oq o34 nM;replace nM:=bB.one nM;refine .r (i:=15) hs rfl az .none (aQ rfl ai nM) ?_;refine .zw 16 rfl jc (.E 17 hs ?_);refine .call call183 rfl (lE hs aj aj) ?_;rintro _ w ⟨rfl,hs⟩;refine .go (.zw 18 rfl zg ?_);refine .D hs ?_;refine .region (.y hs (zld J2) (.z (zfa dL) (.y hs (zld ai) (.z (zfa dL) (.y hs (zld ai) (.z (zfa aR) (.y hs (zld an) (.z (cH ae) (.z cP (.z zm (.z zm (.z (zfa cn) (.y hs (zld ai) (.o (.call call182 rfl (fP (ls:=ls++pX (alL s.sp) s.sp.wa.length p) (hs.sb:St H2 w (.blk bm _::en:: .blk b1 _:: .blk b2 _::sV)) hO (by rw [List.length_append];omega)) ?_)))))))))))))));rintro _ w ⟨vl3,en3,jy,hs⟩;have KB:(s.sp.u (i+1) k:Int)=((p+1:Nat):Int)+(s.sp.wa.length:Int):=by unfold Spc.u at hu ⊢;rw [Nat.add_mul];omega
   rw [show two ((p+1:Nat):Int) (((p+1:Nat):Int)+(s.sp.wa.length:Int)) (jL s.sp.al (gi s.sp.st (i+1) - gi s.sp.st i)) (jL s.sp.al (gi s.sp.st (i+1) - gi s.sp.st i)) s.sp.src=alL s.sp i k by unfold alL;rw [if_pos aj,hu,KB];rfl,List.append_assoc,←mh] at jy;exact .nil (nB ⟨H2,_,HLe.refl _,hs,_,_,rfl,jy⟩)
  ·refine .skip (nB ?_);rw [show alL s.sp i k=[] by unfold alL;rw [if_neg aj],List.append_nil] at mh;exact ⟨H2,_,HLe.refl _,(hs.sb:St H2 w (.blk bm _::en:: .blk b1 _:: .blk b2 _::sV)),_,_,rfl,by rw [mh];exact hO⟩
 ·rintro D H2 vZ w aW ⟨vl,en,rfl,hO⟩ hs;rw [dy,show s.sp.many=s.sp.st.length*s.sp.wa.length from rfl,pW _ oY.2.2.1] at hO;exact nB (Fin.Pf [D] [] hs fun w hs=>⟨_,results0 results107,H2,vl,en,aq.trans aW,hO,(hs.sb:St H2 w (.blk bm _::en::σ))⟩)
theorem xw{w:World}{s:Srv}{vst vwa:Value}(hs:St H w (.blk bm [I s.sp.id,I s.sp.src,vst,vwa,I s.sp.al,I s.sp.up,vr,vc,vt,vl]::en::σ))(hk:MkK H s ts vst vwa vr vc vt)(hO:bG 4 vl (fX ls) en)(hl:ls.length≤10000)(bq:fm s.sp):
  TN 108 [Pt bm] w fun _ w'=>∃H1 qQ iT,HLe H H1∧bG 4 qQ (fX (ls++dE (upL s.sp) s.sp.wa.length s.sp.st.length)) iT∧St H1 w' (.blk bm [I s.sp.id,I s.sp.src,vst,vwa,I s.sp.al,I s.sp.up,vr,vc,vt,qQ]::iT::σ):=by
 have oY:=fc bq;obtain ⟨ast,cst,rfl⟩:=RI.shape hk.st;obtain ⟨awa,cwa,rfl⟩:=RI.shape hk.wa;refine Cl.o func108 ntmps108 ag1 ?_;refine .af (.bx hs fun b1 w hs=>?_);refine .nil (.af (.y hs (zld J2) (.z znc (.z (zfa cS) (.z (zfa aU) (.y hs (zls [_,_,_,_,_,_] bg aJ) (.o (.alloc hs gn rfl fun b2 w hs=>?_))))))));refine .o (.aS (vs:=[_,_,_,_,_,_]) hs rfl rfl aJ fun w hs=>?_);refine .nil (.af (.y hs (zls [_,_,_,_,_,_] bg aJ) (.o (.call call44 rfl (eG (s:=s.sp) hs hk.st hk.wa ⟨aj,aj⟩) ?_))));rintro _ w ⟨H1,ba,aq,rfl,oh,hs⟩;refine .nil (.block ?_);refine .rangeFunc (gf:=92) (cap:=[Pt ba]) (xs:=wP s.sp) (σb:=[.blk bm [I s.sp.id,I s.sp.src,.slice ast s.sp.st.length cst,.slice awa s.sp.wa.length cwa,I s.sp.al,I s.sp.up,vr,vc,vt,vl],en,.blk b1 [Pt bm],.blk b2 [I s.sp.id,I s.sp.src,.slice ast s.sp.st.length cst,.slice awa s.sp.wa.length cwa,I s.sp.al,I s.sp.up]]) (σf:=σ) (hs.sb) trivial rfl oh call92 (fun x hx=>by
   simp only [wP,List.mem_map] at hx;obtain ⟨j,_,rfl⟩:=hx;rfl) rfl
  (I:=fun p H' σb=>∃vl en,σb=[.blk bm [I s.sp.id,I s.sp.src,.slice ast s.sp.st.length cst,.slice awa s.sp.wa.length cwa,I s.sp.al,I s.sp.up,vr,vc,vt,vl],en,.blk b1 [Pt bm],.blk b2 [I s.sp.id,I s.sp.src,.slice ast s.sp.st.length cst,.slice awa s.sp.wa.length cwa,I s.sp.al,I s.sp.up]]∧bG 4 vl (fX (ls++pX (upL s.sp) s.sp.wa.length p)) en) (Ix:=fun _ _ _=>False)
  (fun j _ _ σ g1 g2=>g2) (fun _ _ _ _ _ h=>h) ⟨vl,en,rfl,by rw [nC,List.append_nil];exact hO⟩ ?_ ?_ (fun D c H' σb w _ h _=>h.elim)
 ·rintro ly p hp H2 vZ tj w aW ⟨vl,en,rfl,hO⟩ hs ⟨rr,E9⟩;have DL:p<s.sp.many:=by rw [dy] at hp;exact hp
  have mh:=nD (upL s.sp) (p:=p) oY.2.2.1;have Gr:=ju (oF s.sp) oY.2.2.1 p;have fh:p/s.sp.wa.length<s.sp.st.length:=Nat.div_lt_of_lt_mul (by rw [Nat.mul_comm];exact DL);have HT:=Nat.mod_lt p oY.2.2.1;have Nw:=Nat.div_add_mod p s.sp.wa.length;rw [Nat.mul_comm] at Nw;have hu:(s.sp.u (p/s.sp.wa.length) (p%s.sp.wa.length):Int)=(p:Int)+1:=by unfold Spc.u;omega
  rw [l9 hp];obtain ⟨al,ll,cl,rfl,vI⟩:=hO.shape;generalize p/s.sp.wa.length=i at*;generalize p%s.sp.wa.length=k at*;have HU:=hk.mono (aq.trans aW);refine .region (.o (.alloc hs qH rfl fun b3 w hs=>?_));refine .o (.aS (vs:=[_,_,_]) hs rfl rfl DH fun w hs=>?_);refine .nil (nT ⟨H2,[.blk b3 [I (i:Int),I (k:Int),I ((p+1:Nat):Int)],.blk bm [I s.sp.id,I s.sp.src,.slice ast s.sp.st.length cst,.slice awa s.sp.wa.length cwa,I s.sp.al,I s.sp.up,vr,vc,vt,.slice al ll cl],en,.blk b1 [Pt bm],.blk b2 [I s.sp.id,I s.sp.src,.slice ast s.sp.st.length cst,.slice awa s.sp.wa.length cwa,I s.sp.al,I s.sp.up]],HLe.refl _,hs,?_⟩);rintro w sV - hs;refine .block (.af (.z (zfa bV) (.y hs (zld ai) (.z cP (.z (zfa aR) (.y hs (zld an) (.z (cH ae) (.zn iG (.cu rfl (fun nN=>?_) (fun nN=>?_))))))))))
  ·refine .seq (.draw mix rfl hs fun w hs=>?_);refine .zw 0 rfl (zfa dM) ?_;refine .z 1 rfl (zfa lS) ?_;refine .y 2 rfl hs ai ?_;refine .z 3 rfl (zfa aR) ?_;refine .y 4 rfl hs an ?_;refine .z 5 rfl (zfa bV) ?_;refine .y 6 rfl hs ai ?_;refine .z 7 rfl cP ?_;have KI:=bq.wa.rise k aj;have LM:=bq.wa.bd (i:=k) aj;have Jo:=bq.wa.bd (i:=k+1) aj;have Il:=bq.up;refine .ixX (enc:=fun x=>[I x]) (i:=8) hs rfl az .none HU.wa rfl rfl ae ak (bJ (l:=s.sp.wa) (i:=(k+1)) aj) dG ?_;intro Pr o28 jw;replace jw:=bB.one jw;refine .r (i:=9) hs rfl az .none (aQ rfl ai jw) ?_;refine .zw 10 rfl (zfa aR) ?_;refine .y 11 rfl hs an ?_;refine .z 12 rfl (zfa bV) ?_;refine .y 13 rfl hs ai ?_;refine .ixX (enc:=fun x=>[I x]) (i:=14) hs rfl az .none HU.wa rfl rfl ae ak (bJ (l:=s.sp.wa) (i:=k) aj) dG ?_;intro Oq o34 nM;replace nM:=bB.one nM;refine .r (i:=15) hs rfl az .none (aQ rfl ai nM) ?_;refine .zw 16 rfl jc (.E 17 hs ?_);refine .call call183 rfl (lE hs aj aj) ?_;rintro _ w ⟨rfl,hs⟩;refine .go (.zw 18 rfl zg ?_);refine .D hs ?_;refine .region (.y hs (zld J2) (.z (zfa dL) (.y hs (zld ai) (.z (zfa dL) (.y hs (zld ai) (.z cP (.z zm (.z zm (.z (zfa cn) (.y hs (zld ai) (.o (.call call182 rfl (fP (ls:=ls++pX (upL s.sp) s.sp.wa.length p) (hs.sb:St H2 w (.blk bm _::en:: .blk b1 _:: .blk b2 _::sV)) hO (by rw [List.length_append];omega)) ?_))))))))))));rintro _ w ⟨vl3,en3,jy,hs⟩;have KB:(s.sp.u i (k+1):Int)=((p+1:Nat):Int)+1:=by unfold Spc.u at hu ⊢;omega
   rw [show two ((p+1:Nat):Int) (((p+1:Nat):Int)+1) (jL s.sp.up (gi s.sp.wa (k+1) - gi s.sp.wa k)) (jL s.sp.up (gi s.sp.wa (k+1) - gi s.sp.wa k)) s.sp.src=upL s.sp i k by unfold upL;rw [if_pos aj,hu,KB];rfl,List.append_assoc,←mh] at jy;exact .nil (nB ⟨H2,_,HLe.refl _,hs,_,_,rfl,jy⟩)
  ·refine .skip (nB ?_);rw [show upL s.sp i k=[] by unfold upL;rw [if_neg aj],List.append_nil] at mh;exact ⟨H2,_,HLe.refl _,(hs.sb:St H2 w (.blk bm _::en:: .blk b1 _:: .blk b2 _::sV)),_,_,rfl,by rw [mh];exact hO⟩
 ·rintro D H2 vZ w aW ⟨vl,en,rfl,hO⟩ hs;rw [dy,show s.sp.many=s.sp.st.length*s.sp.wa.length from rfl,pW _ oY.2.2.1] at hO;exact nB (Fin.Pf [D] [] hs fun w hs=>⟨_,results0 results108,H2,vl,en,aq.trans aW,hO,(hs.sb:St H2 w (.blk bm _::en::σ))⟩)
theorem rh{w:World}{s:Srv}{vst vwa:Value}(hs:St H w (.blk bm [I s.sp.id,I s.sp.src,vst,vwa,I s.sp.al,I s.sp.up,vr,vc,vt,vl]::en::σ))(hk:MkK H s ts vst vwa vr vc vt)(hO:bG 4 vl (fX ls) en)(hl:ls.length≤10000)(bq:fm s.sp)(yx:ts.length≤100):
  TN 109 [Pt bm] w fun _ w'=>∃H1 qQ iT,HLe H H1∧bG 4 qQ (fX (ls++wK s.sp ts.length)) iT∧St H1 w' (.blk bm [I s.sp.id,I s.sp.src,vst,vwa,I s.sp.al,I s.sp.up,vr,vc,vt,qQ]::iT::σ):=by
 have oY:=fc bq;obtain ⟨at_,ct,rfl⟩:=RTd.shape hk.ts;refine Cl.o func109 ntmps109 ag1 ?_;refine .af (.z zm (.z znc (.z (zfa eP) (.y hs (zld isAgg124) (.z (cH br) (.zn zm (.for (N:=ts.length) (J:=fun j fr w=>fr=[(0,Pt bm)]∧∃vl en,bG 4 vl (fX (ls++wK s.sp j)) en∧St H w (.blk bm [I s.sp.id,I s.sp.src,vst,vwa,I s.sp.al,I s.sp.up,vr,vc,.slice at_ ts.length ct,vl]::en::σ)) aj ?_ ?_ ?_)))))))
 ·exact .mk ⟨rfl,vl,en,by show bG 4 vl (fX (ls++[])) en;rw [List.append_nil];exact hO,hs⟩
 ·rintro j fr w hj ⟨rfl,vl,en,hO,hs⟩;have LW:=iB s.sp j;obtain ⟨al,ll,cl,rfl,vI⟩:=hO.shape;refine .block (.af (.z zm (.zn zg (.draw mix rfl hs fun w hs=>?_))));refine .zw 0 rfl zm ?_;refine .z 1 rfl zm ?_;refine .z 2 rfl zm ?_;refine .z 4 rfl zm ?_;refine .z 5 rfl znc ?_;refine .z 6 rfl (zfa cS) ?_;refine .z 7 rfl (zfa aU) ?_;refine .z 8 rfl (zfa cn) ?_;refine .y 9 rfl hs ai ?_;refine .E 3 hs ?_;refine .call call184 rfl (ki (s:=s.sp) hs .here hk.st hk.wa ⟨aj,aj⟩ ⟨aj,aj⟩) ?_;rintro _ w ⟨rfl,hs⟩;refine .go (.E 10 hs ?_);refine .call call182 rfl (fP (ls:=ls++wK s.sp j) hs hO (by rw [List.length_append];omega)) ?_;rintro _ w ⟨vl3,en3,jy,hs⟩;rw [show (s.sp.many:Int)+1+(j:Int)=((s.sp.many+1+j:Nat):Int) by omega,List.append_assoc] at jy;exact .go (.D hs (nB (nT (.mk ⟨rfl,vl3,en3,jy,hs⟩))))
 ·rintro fr w ⟨rfl,vl,en,hO,hs⟩;exact Fin.uX results109 ⟨H,vl,en,HLe.refl _,hO,hs⟩
set_option maxHeartbeats 1000000 in
theorem oR{w:World}{s:Srv}{vst vwa:Value}(hs:St H w (.blk bm [I s.sp.id,I s.sp.src,vst,vwa,I s.sp.al,I s.sp.up,vr,vc,vt,vl]::en::σ))(hk:MkK H s ts vst vwa vr vc vt)(hO:bG 4 vl (fX ls) en)(hl:ls.length≤10000)(bq:fm s.sp)(yx:ts.length≤100)(uj:s.cs.length≤20)(hc:∀c∈s.cs,pz c){j0:Nat}(hj0:j0≤ts.length):
  TN 185 [Pt bm,I (j0:Int)] w fun _ w'=>∃H1 qQ iT,HLe H H1∧bG 4 qQ (fX (ls++sJ s.sp ts s.cs j0 s.cs.length)) iT∧St H1 w' (.blk bm [I s.sp.id,I s.sp.src,vst,vwa,I s.sp.al,I s.sp.up,vr,vc,vt,qQ]::iT::σ):=by
 have oY:=fc bq;obtain ⟨at_,ct,rfl⟩:=RTd.shape hk.ts;obtain ⟨ac,cc,rfl⟩:=RCm.shape hk.cs;refine Cl.o func185 ntmps185 ag2 ?_;refine .af (.z zm (.z znc (.z (zfa cS) (.z (zfa cV) (.y hs (zld nZ) (.z (cH bX) (.zn zm (.for (N:=s.cs.length) (J:=fun i fr w=>fr=[(12,.slice ac s.cs.length cc),(0,Pt bm),(1,I (j0:Int))]∧∃vl en,bG 4 vl (fX (ls++sJ s.sp ts s.cs j0 i)) en∧St H w (.blk bm [I s.sp.id,I s.sp.src,vst,vwa,I s.sp.al,I s.sp.up,vr,.slice ac s.cs.length cc,.slice at_ ts.length ct,vl]::en::σ)) aj ?_ ?_ ?_))))))))
 ·exact .mk ⟨rfl,vl,en,by show bG 4 vl (fX (ls++[])) en;rw [List.append_nil];exact hO,hs⟩
 ·rintro i fr w hi ⟨rfl,vl,en,hO,hs⟩;obtain ⟨c,hx⟩:=nth hi;obtain ⟨g1,g2,g3,g4,g5,g6⟩:=hc c (List.mem_of_getElem? hx);have QW:=iC s.sp ts s.cs j0 i;have QV:i*(2*(ts.length - j0))≤20*(2*100):=Nat.mul_le_mul aj aj;refine .block (.af (.ixX (enc:=Cmp.c) hs hk.cs rfl rfl bX de hx dG ?_));intro oz o16 dX;refine .q hs (bE (vs:=(Cmp.c c)) rfl rP de dX) (.o (.alloc hs nX rfl fun b5 w hs=>?_));refine .o (.aS (vs:=c.c) hs rfl rfl de fun w hs=>?_);replace hs:St H w (.blk bm [I s.sp.id,I s.sp.src,vst,vwa,I s.sp.al,I s.sp.up,vr,.slice ac s.cs.length cc,.slice at_ ts.length ct,vl]::en:: .blk b5 [I c.src,I c.tape,I c.fr,I c.to,I c.lo,I c.hi]::σ):=hs.sb;refine .nil (.af (.z zm (.zn zg (.block ?_))));refine .loop (fun j:Nat=>⟨62,[],[(6,I ((j0+j:Nat):Int)),(5,Pt b5),(14,I (i:Int)),(13,I (s.cs.length:Int)),(12,.slice ac s.cs.length cc),(0,Pt bm),(1,I (j0:Int))]⟩)
   (fun j w=>j0+j≤ts.length∧∃vl en,bG 4 vl (fX (ls++sJ s.sp ts s.cs j0 i++ku s.sp ts c j0 j)) en∧St H w (.blk bm [I s.sp.id,I s.sp.src,vst,vwa,I s.sp.al,I s.sp.up,vr,.slice ac s.cs.length cc,.slice at_ ts.length ct,vl]::en:: .blk b5 [I c.src,I c.tape,I c.fr,I c.to,I c.lo,I c.hi]::σ)) (fun j=>ts.length - (j0+j)) 0 bk
   ⟨aj,vl,en,by show bG 4 vl (fX (_++[])) en;rw [List.append_nil];exact hO,hs⟩ ?_
  clear hO hs;rintro j w ⟨hj,vl,en,hO,hs⟩;have BU:=kR s.sp ts c j0 j;obtain ⟨al,ll,cl,rfl,vI⟩:=hO.shape;refine .seq (.af (.z zm (.z zm (.z znc (.z (zfa eP) (.y hs (zld isAgg124) (.z (cH br) (.zn iG (.cu rfl (fun jx=>?_) (fun jx=>?_))))))))))
  ·refine .skip (nT (.seq (.block (.af (.z zm (.z znc (.z (zfa eP) (.y hs (zld isAgg124) (.z zm ?_)))))))));obtain ⟨t,ht⟩:=nth (l:=ts) (k:=j0+j) aj;have Qb:=I8 ht;refine .ixX (enc:=TD.c) hs hk.ts rfl rfl br bP ht dG ?_;intro b33 o33 xL;refine .q hs (bE (vs:=(TD.c t)) rfl gK bP xL) (.o (.alloc hs qI rfl fun b7 w hs=>?_));refine .o (.aS (vs:=t.c) hs rfl rfl bP fun w hs=>?_);change St _ _ (.blk b7 [I t.tape,I t.day]::_) at hs;refine .nil (.af (.z (zfa mi) (.y hs (zld ai) (.z (zfa ik) (.y hs (zld ai) (.z gQ (.z zm (.lI (t':=40) rfl (fun K6=>?_) (fun K6=>?_)))))))))
   ·refine .T ?_;refine .z (zfa jM) (.T (.y hs (zld ai) (.T (.z (zfa fN) (.T (.y hs (zld ai) (.T (.z (zfa eL) (.T (.y hs (zld ai) (.T (.o (.call iV rfl (aZ hs) ?_)))))))))))));rintro _ w ⟨rfl,hs⟩;refine .zn zpT (.cond rfl (fun xJ=>?_) (fun xJ=>?_))
    ·refine .draw mix rfl hs fun w hs=>?_
     refine .zw 0 rfl zm ?_;refine .z 1 rfl zm ?_;refine .z 2 rfl zm ?_;refine .z 4 rfl (zfa fM) ?_;refine .y 5 rfl hs ai ?_;refine .z 6 rfl I1 ?_;refine .z 7 rfl (zfa eK) ?_;refine .y 8 rfl hs ai ?_;refine .z 9 rfl (zfa eM) ?_;refine .y 10 rfl hs ai ?_;refine .E 3 hs ?_;refine .call call184 rfl (ki (s:=s.sp) hs (.there .here) hk.st hk.wa ⟨aj,aj⟩ ⟨aj,aj⟩) ?_;rintro _ w ⟨rfl,hs⟩;refine .go (.E 11 hs ?_);refine .call call182 rfl (fP (ls:=ls++sJ s.sp ts s.cs j0 i++ku s.sp ts c j0 j) (hs.tail:St H w (.blk bm _::en:: .blk b5 _::σ)) hO (by rw [List.length_append,List.length_append];omega)) ?_;rintro _ w ⟨vl3,en3,jy,hs⟩;refine .go (.D hs (nB (nT (.region (.z zm (.z cP (.zn zg (nT ?_))))))));have e:ku s.sp ts c j0 (j+1)=ku s.sp ts c j0 j++two 0 ((s.sp.many:Int)+1+((j0+j:Nat):Int)) (-c.lo) c.hi c.src:=by
      show _++kU c (td0 ts (j0+j)) _=_;rw [Qb];unfold kU;rw [if_pos (by simp at xJ;omega)];rw [show ((s.sp.many+1+(j0+j):Nat):Int)=(s.sp.many:Int)+1+((j0+j:Nat):Int) by omega]
     rw [List.append_assoc _ (ku _ _ _ _ _),←e] at jy;exact ⟨j+1,.dI rfl (by simp;omega) bk,⟨aj,vl3,en3,jy,hs⟩,aj⟩
    ·refine .skip (nB (nT (.region (.z zm (.z cP (.zn zg (nT ?_)))))));have e:ku s.sp ts c j0 (j+1)=ku s.sp ts c j0 j:=by
      show _++kU c (td0 ts (j0+j)) _=_;rw [Qb];unfold kU;rw [if_neg (by simp at xJ;omega),List.append_nil]
     exact ⟨j+1,.dI rfl (by simp;omega) bk,⟨aj,_,en,by rw [e];exact hO,hs.tail⟩,aj⟩
   ·refine .Fs 7 5 true (.zn zpF (.cF (.skip (nB (nT (.region (.z zm (.z cP (.zn zg (nT ?_))))))))));have e:ku s.sp ts c j0 (j+1)=ku s.sp ts c j0 j:=by
     show _++kU c (td0 ts (j0+j)) _=_;rw [Qb];unfold kU;rw [if_neg aj,List.append_nil]
    exact ⟨j+1,.dI rfl (by simp;omega) bk,⟨aj,_,en,by rw [e];exact hO,hs.tail⟩,aj⟩
  ·refine .exit (xT (xT (xB (nB (nT ?_)))));obtain rfl:j=ts.length - j0:=by omega
   rw [List.append_assoc,show sJ s.sp ts s.cs j0 i++ku s.sp ts c j0 (ts.length - j0)=sJ s.sp ts s.cs j0 (i+1) by rw [←F6 hx];rfl] at hO;exact .mk ⟨rfl,_,en,hO,hs.sb⟩
 ·rintro fr w ⟨rfl,vl,en,hO,hs⟩;exact Fin.uX results185 ⟨H,vl,en,HLe.refl _,hO,hs⟩
theorem my{w:World}{s:Srv}{vst vwa:Value}(hs:St H w (.blk bm [I s.sp.id,I s.sp.src,vst,vwa,I s.sp.al,I s.sp.up,vr,vc,vt,vl]::en::σ))(hk:MkK H s ts vst vwa vr vc vt)(hO:bG 4 vl (fX ls) en)(hl:ls.length≤10000)(bq:fm s.sp)(yx:ts.length≤100)(uj:s.cs.length≤20)(hc:∀c∈s.cs,pz c):
  TN 110 [Pt bm] w fun _ w'=>∃H1 qQ iT,HLe H H1∧bG 4 qQ (fX (ls++sJ s.sp ts s.cs 0 s.cs.length)) iT∧St H1 w' (.blk bm [I s.sp.id,I s.sp.src,vst,vwa,I s.sp.al,I s.sp.up,vr,vc,vt,qQ]::iT::σ):=by
 refine Cl.o func110 ntmps110 ag1 ?_;refine .region (.z zm (.o (.call call185 rfl (oR (s:=s) (ts:=ts) (j0:=0) hs hk hO hl bq yx uj hc aj) ?_)));rintro _ w hs;exact .nil (Fin.uX results110 hs)
set_option maxHeartbeats 1000000 in
theorem oQ{w:World}{s:Srv}{vst vwa:Value}(hs:St H w (.blk bm [I s.sp.id,I s.sp.src,vst,vwa,I s.sp.al,I s.sp.up,vr,vc,vt,vl]::en::σ))(hk:MkK H s ts vst vwa vr vc vt)(hO:bG 4 vl (fX ls) en)(hl:ls.length≤10000)(bq:fm s.sp)(yx:ts.length≤100)(zy:s.rs.length≤60)(hr:∀r∈s.rs,j5 s.sp r)(ue:∀r∈s.rs,r.td∈ts):
  TN 111 [Pt bm] w fun _ w'=>∃H1 qQ iT,HLe H H1∧bG 4 qQ (fX (ls++tK s.sp ts s.rs s.rs.length)) iT∧St H1 w' (.blk bm [I s.sp.id,I s.sp.src,vst,vwa,I s.sp.al,I s.sp.up,vr,vc,vt,qQ]::iT::σ):=by
 have oY:=fc bq;obtain ⟨at_,ct,rfl⟩:=RTd.shape hk.ts;obtain ⟨ar,cr,rfl⟩:=RRd.shape hk.rs;refine Cl.o func111 ntmps111 ag1 ?_;refine .af (.z zm (.z znc (.z (zfa cS) (.z (zfa aN) (.y hs (zld dT) (.z (cH aO) (.zn zm (.for (N:=s.rs.length) (J:=fun i fr w=>fr=[(9,.slice ar s.rs.length cr),(0,Pt bm)]∧∃vl en,bG 4 vl (fX (ls++tK s.sp ts s.rs i)) en∧St H w (.blk bm [I s.sp.id,I s.sp.src,vst,vwa,I s.sp.al,I s.sp.up,.slice ar s.rs.length cr,vc,.slice at_ ts.length ct,vl]::en::σ)) aj ?_ ?_ ?_))))))))
 ·exact .mk ⟨rfl,vl,en,by show bG 4 vl (fX (ls++[])) en;rw [List.append_nil];exact hO,hs⟩
 ·rintro i fr w hi ⟨rfl,vl,en,hO,hs⟩;obtain ⟨r,hx⟩:=nth hi;obtain ⟨g1,g2,g3,g4,g5,g6,g7⟩:=hr r (List.mem_of_getElem? hx);obtain ⟨k,k1,k2,k3⟩:=gu (ue r (List.mem_of_getElem? hx));have Ql:=iy s.sp ts s.rs i;obtain ⟨al,ll,cl,rfl,vI⟩:=hO.shape;refine .block (.af (.ixX (enc:=Rdg.c) hs hk.rs rfl rfl aO bh hx dG ?_));intro l8 o13 iX;refine .q hs (bE (vs:=(Rdg.c r)) rfl fY bh iX) (.o (.alloc hs iE rfl fun b3 w hs=>?_));refine .o (.aS (vs:=r.c) hs rfl rfl bh fun w hs=>?_);change St _ _ (.blk b3 [I r.src,I r.st,I r.wa,I r.val,I r.tol,I r.tape,I r.day]::_) at hs;refine .nil (.seq (.draw mix rfl hs fun w hs=>?_));refine .zw 0 rfl zm ?_;refine .z 1 rfl znc ?_;refine .z 2 rfl (zfa eP) ?_;refine .y 3 rfl hs isAgg124 ?_;refine .ys 4 rfl hs [_,_,_,_,_,_,_] fY bh ?_;refine .E 5 hs ?_;refine .call call181 rfl (iz hs) ?_;rintro _ w ⟨rfl,hs⟩;refine .go (.E 6 hs ?_);refine .call call186 rfl (tC (t:=r.td) hs hk.ts aj) ?_;rintro _ w ⟨rfl,hs⟩;refine .go (.zw 7 rfl zg ?_);refine .D hs ?_;refine .draw mix rfl hs fun w hs=>?_
  refine .zw 0 rfl zm ?_;refine .z 1 rfl zm ?_;refine .z 2 rfl zm ?_;refine .z 4 rfl zm ?_;refine .z 5 rfl znc ?_;refine .z 6 rfl (zfa cS) ?_;refine .z 7 rfl (zfa aU) ?_;refine .ys 8 rfl hs [_,_,_,_,_,_] bg aJ ?_;refine .z 9 rfl (zfa eJ) ?_;refine .y 10 rfl hs ai ?_;refine .zw 11 rfl (zfa eI) ?_;refine .y 12 rfl hs ai ?_;refine .z 14 rfl (zfa dC) ?_;refine .y 15 rfl hs ai ?_;refine .z 16 rfl (zfa bY) ?_;refine .y 17 rfl hs ai ?_;refine .z 18 rfl cP ?_;refine .z 19 rfl (zfa bY) ?_;refine .y 20 rfl hs ai ?_;refine .z 21 rfl (zfa dC) ?_;refine .y 22 rfl hs ai ?_;refine .z 23 rfl jc ?_;refine .z 24 rfl (zfa dW) ?_;refine .y 25 rfl hs ai ?_;refine .E 3 hs ?_;refine .call call184 rfl (ki (s:=s.sp) hs (.there .here) hk.st hk.wa ⟨aj,aj⟩ ⟨aj,aj⟩) ?_;rintro _ w ⟨rfl,hs⟩;refine .go (.E 13 hs ?_);refine .call call187 rfl (nJ (s:=s.sp) hs hk.wa aj ⟨aj,aj⟩ ⟨aj,aj⟩) ?_;rintro _ w ⟨rfl,hs⟩;refine .go (.E 26 hs ?_);refine .call call182 rfl (fP (ls:=ls++tK s.sp ts s.rs i) (hs.sb:St H w (.blk bm _::en:: .blk b3 _::σ)) hO (by rw [List.length_append];omega)) ?_;rintro _ w ⟨vl3,en3,jy,hs⟩;refine .go (.D hs (nB (nT ?_)));rw [List.append_assoc,show tK s.sp ts s.rs i++two ((s.sp.many:Int)+1+jH ts r.td) (1+r.st*s.sp.wa.length+r.wa) (r.val+r.tol) (r.tol - r.val) r.src=tK s.sp ts s.rs (i+1) by rw [←El hx];rfl] at jy;exact .mk ⟨rfl,vl3,en3,jy,hs.sb⟩
 ·rintro fr w ⟨rfl,vl,en,hO,hs⟩;exact Fin.uX results111 ⟨H,vl,en,HLe.refl _,hO,hs⟩
def fnK:Nat→Nat
 |0=>106
 |1=>107
 |2=>108
 |3=>109
 |4=>110
 |_=>111
theorem IC(hk:k<6):∀args w,(callFunc (fnK k) args).run Tryz.prog w= .ok (.enter (fnK k) args) w:=by
 have h:k=0∨k=1∨k=2∨k=3∨k=4∨k=5:=by omega
 rcases h with rfl|rfl|rfl|rfl|rfl|rfl
 ·exact call106
 ·exact call107
 ·exact call108
 ·exact call109
 ·exact call110
 ·exact call111
theorem ED{w:World}{s:Srv}{vst vwa:Value}(hs:St H w (.blk bm [I s.sp.id,I s.sp.src,vst,vwa,I s.sp.al,I s.sp.up,vr,vc,vt,vl]::en::σ))(hk:MkK H s s.bD vst vwa vr vc vt)(hO:bG 4 vl (fX (s.parts k)) en)(he:s.early)(hk6:k<6):
  TN (fnK k) [Pt bm] w fun _ w'=>∃H1 qQ iT,HLe H H1∧bG 4 qQ (fX (s.parts (k+1))) iT∧St H1 w' (.blk bm [I s.sp.id,I s.sp.src,vst,vwa,I s.sp.al,I s.sp.up,vr,vc,vt,qQ]::iT::σ):=by
 have hl:=kK he k aj;obtain ⟨bq,h1,h2,h3,h4⟩:=he;have yx:s.bD.length≤100:=by have:=cW s.rs;unfold Srv.bD;omega
 have h:k=0∨k=1∨k=2∨k=3∨k=4∨k=5:=by omega
 rcases h with rfl|rfl|rfl|rfl|rfl|rfl
 ·exact oS hs hk hO (Nat.le_trans hl e7) bq
 ·exact sA hs hk hO (Nat.le_trans hl e7) bq
 ·exact xw hs hk hO (Nat.le_trans hl e7) bq
 ·exact rh hs hk hO (Nat.le_trans hl e7) bq yx
 ·exact my hs hk hO (Nat.le_trans hl e7) bq yx h2 h4
 ·exact oQ hs hk hO (Nat.le_trans hl e7) bq yx h1 h3 fun r hr=>dK.2 ⟨r,hr,rfl⟩
def fnV(b:Nat)(k:Nat):Value:= .func (.func (fnK k)) #[Pt b] #[]
theorem Le(b:Nat){k:Nat}(hk:k<6):[fnV b 0,fnV b 1,fnV b 2,fnV b 3,fnV b 4,fnV b 5][k]? =some (fnV b k):=by
 have h:k=0∨k=1∨k=2∨k=3∨k=4∨k=5:=by omega
 rcases h with rfl|rfl|rfl|rfl|rfl|rfl<;>rfl
set_option maxHeartbeats 1000000 in
theorem pT{w:World}{s:Srv}{vst vwa:Value}(hs:St H w σ)(h1:RI H vst s.sp.st)(h2:RI H vwa s.sp.wa)(h3:RRd H vr s.rs)(h4:RCm H vc s.cs)(he:s.early):
  TN 54 [.agg #[I s.sp.id,I s.sp.src,vst,vwa,I s.sp.al,I s.sp.up,vr,vc]] w fun u w'=>∃H1 vl en,HLe H H1∧u= .agg #[I s.sys.many,vl]∧bG 4 vl (fX s.cR) en∧St H1 w' (en::σ):=by
 have oY:=fc he.1;have yx:s.bD.length≤60:=by have:=cW s.rs;have:=he.2.1;unfold Srv.bD;omega
 refine Cl.o func54 ntmps54 ag1 ?_;refine .af (.bx hs fun b1 w hs=>?_);refine .o (.alloc hs jT rfl fun b2 w hs=>?_);refine .nil (.seq (.draw mix rfl hs fun w hs=>?_));refine .ys 0 rfl hs [_,_,_,_,_,_,_,_] bS aV ?_;refine .ys 1 rfl hs [_,_,_,_,_,_,_,_] bS aV ?_;refine .E 2 hs ?_;refine .call call105 rfl (pS hs h3 (by have:=he.2.1;omega)) ?_;rintro v8 w ⟨H1,aq,hT,hs⟩;obtain ⟨at_,ct,rfl⟩:=RTd.shape hT;have Fi:MkK H1 s s.bD vst vwa vr vc (.slice at_ s.bD.length ct):=⟨h1.mono aq,h2.mono aq,h3.mono aq,h4.mono aq,hT⟩;refine .go (.zw 3 rfl (zbd (vs:=[(0,.agg #[I s.sp.id,I s.sp.src,vst,vwa,I s.sp.al,I s.sp.up,vr,vc]),(1,.slice at_ s.bD.length ct)]) [I s.sp.id,I s.sp.src,vst,vwa,I s.sp.al,I s.sp.up,vr,vc,.slice at_ s.bD.length ct,.slice none 0 0] rM rfl az) (.E 4 hs ?_));refine .box hs rfl rfl ?_;intro ib w hs;refine .go (.zw 5 rfl zg ?_);refine .D hs ?_;refine .seq (.af (.z zm (.q hs (dt (f:=[_]) (c:=[]) rfl rfl) (.z zm (.q hs (dt (f:=[_]) (c:=[]) rfl rfl) (.z zm (.q hs (dt (f:=[_]) (c:=[]) rfl rfl) (.z zm (.q hs (dt (f:=[_]) (c:=[]) rfl rfl) (.z zm (.q hs (dt (f:=[_]) (c:=[]) rfl rfl) (.z zm (.q hs (dt (f:=[_]) (c:=[]) rfl rfl) (.o (.buildSlice (cells:=[fnV ib 0,fnV ib 1,fnV ib 2,fnV ib 3,fnV ib 4,fnV ib 5]) hs yi rfl az fun Cg w hs=>?_)))))))))))))));refine .z (cH runUnderlying222) (.zn zm (.for (N:=6) (J:=fun k fr w=>fr=[(23,.slice (some ⟨Cg,0,none⟩) 6 6),(3,Pt ib),(2,Pt b2),(1,Pt b1)]∧∃H2 vl en,HLe H1 H2∧bG 4 vl (fX (s.parts k)) en∧St H2 w (.blk ib [I s.sp.id,I s.sp.src,vst,vwa,I s.sp.al,I s.sp.up,vr,vc,.slice at_ s.bD.length ct,vl]::en:: .blk Cg [fnV ib 0,fnV ib 1,fnV ib 2,fnV ib 3,fnV ib 4,fnV ib 5]:: .blk b2 [I 0,.slice none 0 0]:: .blk b1 [I s.sp.id,I s.sp.src,vst,vwa,I s.sp.al,I s.sp.up,vr,vc]::σ)) aj ?_ ?_ ?_))
 ·exact .mk ⟨rfl,H1,.slice none 0 0,.nul,HLe.refl _,.nil 4 none,hs.nul.sb⟩
 ·rintro k fr w hk ⟨rfl,H2,vl,en,aW,hO,hs⟩;refine .block (.af (.z (zix runUnderlying222 sizeOf1) (.q hs (eN rfl isAgg1 (hv:=Le ib hk)) (.zn zg (.region (.z zm (.o (.nm (first:=[Pt ib]) (cap:=[]) rfl rfl (IC hk) (ED hs (Fi.mono aW) hO he hk) ?_))))))));rintro _ w ⟨H3,vl3,en3,bO,jy,hs⟩;exact .nil (nB (nT (.mk ⟨rfl,H3,vl3,en3,aW.trans bO,jy,hs⟩)))
 ·rintro fr w ⟨rfl,H2,vl,en,aW,hO,hs⟩;rw [s.xo] at hO;obtain ⟨al,ll,cl,rfl,vI⟩:=hO.shape;refine nT (.seq (.draw mix rfl hs fun w hs=>?_));refine .zw 0 rfl (zfa aU) ?_;refine .ys 1 rfl hs [_,_,_,_,_,_] bg aJ ?_;refine .z 3 rfl zm ?_;refine .z 4 rfl znc ?_;refine .z 5 rfl (zfa eP) ?_;refine .y 6 rfl hs isAgg124 ?_;refine .z 7 rfl (cH br) ?_;refine .z 9 rfl zm ?_;refine .z 10 rfl znc ?_;refine .z 11 rfl (zfa iQ) ?_;refine .zv 12 rfl hs (rp fJ) (.E 2 hs ?_);refine .call call112 rfl (lC (s:=s.sp) hs (h1.mono (aq.trans aW)) (h2.mono (aq.trans aW)) ⟨aj,aj⟩) ?_;rintro _ w ⟨rfl,hs⟩;refine .go (.zw 8 rfl cP ?_);refine .z 13 rfl (zbd [_,_] k9) ?_;refine .E 14 hs ?_;refine .aS (vs:=[_,_]) hs rfl rfl bF ?_;intro w hs;refine .go (.D hs (.ret ?_));replace hs:St H2 w (.blk b2 [I ((s.sp.many:Int)+(s.bD.length:Int)),.slice al ll cl]::en::σ):=hs.sb;exact Fin.kY [] [] hs fun w hs=>⟨_,results1 results54 (fq (vs:=[_,_]) hs rfl dp bF),H2,_,en,aq.trans aW,by show _=Value.agg #[I ((s.sp.many+s.bD.length:Nat):Int),_];rw [Int.natCast_add],hO,hs.tail⟩
theorem fB{w:World}{s:Srv}{vst vwa:Value}(hs:St H w σ)(h1:RI H vst s.sp.st)(h2:RI H vwa s.sp.wa)(h3:RRd H vr s.rs)(h4:RCm H vc s.cs)(he:s.early):
  TN 54 [.agg #[I s.sp.id,I s.sp.src,vst,vwa,I s.sp.al,I s.sp.up,vr,vc]] w fun u w'=>∃H1,HLe H H1∧RSy H1 u s.sys∧St H1 w' σ:=by
 refine (pT hs h1 h2 h3 h4 he).mono ?_;rintro u w' ⟨H1,vl,en,hle,rfl,hO,hs⟩;have hl:=kK he 6 aj;rw [s.xo] at hl;obtain ⟨H2,aW,hR,hs⟩:=bG.bK (m:=4) (cs:=s.cR.map Lim.c) hO (fun c hc=>by simp only [List.mem_map] at hc;obtain ⟨x,_,rfl⟩:=hc;rfl) aj (by rw [List.length_map];omega) hs .here;exact ⟨H2,hle.trans aW,⟨vl,rfl,hR⟩,hs⟩
set_option maxHeartbeats 1000000 in
theorem gg{w:World}{s:Srv}{vst vwa:Value}(hs:St H w σ)(h1:RI H vst s.sp.st)(h2:RI H vwa s.sp.wa)(h3:RRd H vr s.rs)(h4:RCm H vc s.cs):
  TN 53 [.agg #[I s.sp.id,I s.sp.src,vst,vwa,I s.sp.al,I s.sp.up,vr,vc]] w fun u w'=>∃H1 e,HLe H H1∧u=I e∧Bj s e∧St H1 w' σ:=by
 obtain ⟨ast,cst,rfl⟩:=RI.shape h1;obtain ⟨awa,cwa,rfl⟩:=RI.shape h2;obtain ⟨ar,cr,rfl⟩:=RRd.shape h3;obtain ⟨ac,cc,rfl⟩:=RCm.shape h4;refine Cl.o func53 ntmps53 ag1 ?_;refine .af (.bx hs fun b1 w hs=>?_);refine .zn zg (.seq (.af (.z (zfa aU) (.y hs (zls [_,_,_,_,_,_] bg aJ) (.o (.call call41 rfl (fC (s:=s.sp) hs h1 h2) ?_))))));rintro _ w ⟨H1,e,aq,rfl,he,hs⟩;refine .zn zg (.af (.z zm (.zn gL (.gU rfl (fun iX=>?_) (fun iX=>?_)))))
 ·refine .af (.z zm (.zn zg (.ret (rT (Fin.bw vX rfl ?_)))));have hq:¬fm s.sp∧e=30:=he.resolve_left fun h=>iX h.2
  exact ⟨H1,_,aq,rfl,by rw [hq.2];exact .space hq.1,hs.out⟩
 ·refine .skip (nT (.seq (.af (.z (zfa aN) ?_))));have bq:fm s.sp:=(he.resolve_right fun h=>by omega).1;refine .y hs (zld dT) (.z (cH aO) (.z uS (.z zm (.lI (t':=19) rfl (fun FB=>?_) (fun FB=>?_)))))
  ·exact .Fs 4 4 false (.zn zpT (.cT (.af (.zn zg (.ret (rT (Fin.bw vX rfl ⟨H1,_,aq,rfl,.long bq aj,hs.out⟩)))))))
  ·refine .T (.z (zfa cV) (.T (.y hs (zld nZ) (.T (.z (cH bX) (.T (.z uS (.zn zpF (.cu rfl (fun rE=>?_) (fun rE=>?_))))))))))
   ·exact .af (.zn zg (.ret (rT (Fin.bw vX rfl ⟨H1,_,aq,rfl,.long bq aj,hs.out⟩))))
   ·refine .skip (nT (.seq (.af (.z (zfa aN) (.y hs (zld dT) (.z (cH aO) (.zn zm (.for (N:=s.rs.length) (J:=fun k fr w=>fr=[(26,.slice ar s.rs.length cr),(1,Pt b1)]∧(∀j<k,∀y,s.rs[j]? =some y→j5 s.sp y)∧St H1 w (.blk b1 [I s.sp.id,I s.sp.src,.slice ast s.sp.st.length cst,.slice awa s.sp.wa.length cwa,I s.sp.al,I s.sp.up,.slice ar s.rs.length cr,.slice ac s.cs.length cc]::σ)) aj ?_ ?_ ?_))))))))
    ·exact .mk ⟨rfl,fun j hj=>by omega,hs⟩
    ·rintro k fr w hk ⟨rfl,iI,hs⟩;obtain ⟨r,hx⟩:=nth hk;refine .block (.af (.ixX (enc:=Rdg.c) hs (h3.mono aq) rfl rfl aO bh hx dG ?_));intro Gb o30 o7;refine .q hs (bE (vs:=(Rdg.c r)) rfl fY bh o7) (.o (.alloc hs iE rfl fun b5 w hs=>?_));refine .o (.aS (vs:=r.c) hs rfl rfl bh fun w hs=>?_);change St _ _ (.blk b5 [I r.src,I r.st,I r.wa,I r.val,I r.tol,I r.tape,I r.day]::_) at hs;refine .nil (.af (.z (zfa aU) (.y hs (zls [_,_,_,_,_,_] bg aJ) (.y hs (zls [_,_,_,_,_,_,_] fY bh) (.o (.call call103 rfl (mv (s:=s.sp) (r:=r) hs (h1.mono aq) (h2.mono aq)) ?_))))));rintro _ w ⟨Po,rfl,A3,hs⟩;refine .zn iW (.cond rfl (fun xK=>?_) (fun xK=>?_))
     ·exact .af (.zn zg (.ret (rB (rT (rB (rT (Fin.bw vX rfl ⟨H1,_,aq,rfl,.rdg bq aj (fun h=>by rw [A3.2 (h r (List.mem_of_getElem? hx))] at xK;cases xK),hs.out⟩)))))))
     ·exact .skip (nB (nT (.mk ⟨rfl,gq iI hx (A3.1 (by simpa using xK)),hs.tail⟩)))
    ·rintro fr w ⟨rfl,iI,hs⟩;have Jl:∀r∈s.rs,j5 s.sp r:=fun r hr=>by
      obtain ⟨j,hj⟩:=List.getElem?_of_mem hr;exact iI j (List.getElem?_eq_some_iff.1 hj).1 r hj
     clear iI;refine nT (.seq (.af (.z (zfa cV) (.y hs (zld nZ) (.z (cH bX) (.zn zm (.for (N:=s.cs.length) (J:=fun k fr w=>fr=[(39,.slice ac s.cs.length cc),(1,Pt b1)]∧(∀j<k,∀y,s.cs[j]? =some y→pz y)∧St H1 w (.blk b1 [I s.sp.id,I s.sp.src,.slice ast s.sp.st.length cst,.slice awa s.sp.wa.length cwa,I s.sp.al,I s.sp.up,.slice ar s.rs.length cr,.slice ac s.cs.length cc]::σ)) aj ?_ ?_ ?_)))))))
     ·exact .mk ⟨rfl,fun j hj=>by omega,hs⟩
     ·rintro k fr w hk ⟨rfl,iI,hs⟩;obtain ⟨c,hx⟩:=nth hk;refine .block (.af (.ixX (enc:=Cmp.c) hs (h4.mono aq) rfl rfl bX de hx dG ?_));intro Pg o43 Ie;refine .q hs (bE (vs:=(Cmp.c c)) rfl rP de Ie) (.o (.alloc hs nX rfl fun b7 w hs=>?_));refine .o (.aS (vs:=c.c) hs rfl rfl de fun w hs=>?_);change St _ _ (.blk b7 [I c.src,I c.tape,I c.fr,I c.to,I c.lo,I c.hi]::_) at hs;refine .nil (.af (.y hs (zls [_,_,_,_,_,_] rP de) (.o (.call call104 rfl (mw (c:=c) hs) ?_))));rintro _ w ⟨b46,rfl,Ij,hs⟩;refine .zn iW (.cond rfl (fun p9=>?_) (fun p9=>?_))
      ·exact .af (.zn zg (.ret (rB (rT (rB (rT (Fin.bw vX rfl ⟨H1,_,aq,rfl,.cmp bq aj Jl (fun h=>by rw [Ij.2 (h c (List.mem_of_getElem? hx))] at p9;cases p9),hs.out⟩)))))))
      ·exact .skip (nB (nT (.mk ⟨rfl,gq iI hx (Ij.1 (by simpa using p9)),hs.tail⟩)))
     ·rintro fr w ⟨rfl,iI,hs⟩;have DQ:∀c∈s.cs,pz c:=fun c hc=>by
       obtain ⟨j,hj⟩:=List.getElem?_of_mem hc;exact iI j (List.getElem?_eq_some_iff.1 hj).1 c hj
      have LX:s.early:=⟨bq,aj,aj,Jl,DQ⟩;have oY:=fc bq;have yx:s.bD.length≤60:=by have:=cW s.rs;have:=LX.2.1;unfold Srv.bD;omega
      have vI:=kK LX 6 aj;rw [s.xo] at vI;have hsm2:s.sys.many=((s.sp.many+s.bD.length:Nat):Int):=rfl;refine nT (.seq (.af (.y hs (zls [_,_,_,_,_,_,_,_] bS aV) (.o (.call call54 rfl (fB (s:=s) hs (h1.mono aq) (h2.mono aq) (h3.mono aq) (h4.mono aq) LX) ?_)))));rintro _ w ⟨H2,aW,⟨ul,rfl,hL⟩,hs⟩;obtain ⟨al,cl,rfl⟩:=RL.shape hL;have Qf:s.sys.cR.length=s.cR.length:=rfl;refine .o (.alloc hs jT rfl fun b8 w hs=>?_);refine .o (.aS (vs:=[_,_]) hs rfl rfl bF fun w hs=>?_);refine .nil (.af (.z (zfa bH) (.y hs (zld ai) (.z uS (.z zm (.lI (t':=54) rfl (fun Rg=>?_) (fun Rg=>?_)))))))
      ·exact .Fs 4 3 false (.zn zpT (.cT (.af (.zn zg (.ret (rT (Fin.bw vX rfl ⟨H2,_,aq.trans aW,rfl,.big LX aj,hs.out⟩)))))))
      ·refine .T (.z (zfa bN) (.T (.y hs (zld fJ) (.T (.z (cH a7) (.T (.z uS (.zn zpF (.cu rfl (fun Q4=>?_) (fun Q4=>?_))))))))))
       ·exact .af (.zn zg (.ret (rT (Fin.bw vX rfl ⟨H2,_,aq.trans aW,rfl,.big LX aj,hs.out⟩))))
       ·exact .skip (nT (.af (.zn zg (.ret (Fin.bw vX rfl ⟨H2,_,aq.trans aW,rfl,.ok LX ⟨aj,aj⟩,hs.out⟩)))))
end Go.Proofs.YtlgfjghdgbhkhaaGreat
