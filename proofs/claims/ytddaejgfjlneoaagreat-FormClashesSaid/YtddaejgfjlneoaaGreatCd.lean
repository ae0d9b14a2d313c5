/-
  Texts of these claims, joined: Srt Yc Yd Ye Yf Ym Yq Yr Yx Za Zb Zc Zd Ze Zf Zg Zh Zi.
-/
import Derived.Test.YtddaejgfjlneoaaGreatCc
import Derived.Shelf.Sort.Plain
import Derived.Shelf.Slices.CompactI
import Derived.Shelf.Slices.In.SortNone
import Derived.Lib.RowBridge
namespace Go.Proofs
open Go.Shelf
def Tryz.ye:Go.Shelf.Ren:=⟨fun|189=>138|125=>209|257=>208|128=>262|129=>263|294=>253|295=>254|296=>255|297=>256|298=>257|299=>258|216=>259|300=>260|301=>261|328=>282|329=>283|330=>284|331=>285|332=>286|215=>287|343=>296|n=>n,fun|28=>22|3=>3|46=>250|0=>0|51=>285|53=>287|4=>4|183=>279|182=>278|131=>282|5=>5|9=>9|218=>304|222=>308|228=>318|229=>275|n=>n,fun|n=>n⟩
theorem Tryz.Ba:Go.Proofs.Lays.n189 Tryz.prog Tryz.ye:={
 mixed:=by kernel_rfl
 f125:=Tryz.func209.trans (congrArg some (by kernel_rfl))
 f128:=Tryz.func262.trans (congrArg some (by kernel_rfl))
 f129:=Tryz.func263.trans (congrArg some (by kernel_rfl))
 f189:=Tryz.func138.trans (congrArg some (by kernel_rfl))
 f215:=Tryz.func287.trans (congrArg some (by kernel_rfl))
 f216:=Tryz.func259.trans (congrArg some (by kernel_rfl))
 f257:=Tryz.func208.trans (congrArg some (by kernel_rfl))
 f294:=Tryz.func253.trans (congrArg some (by kernel_rfl))
 f295:=Tryz.func254.trans (congrArg some (by kernel_rfl))
 f296:=Tryz.func255.trans (congrArg some (by kernel_rfl))
 f297:=Tryz.func256.trans (congrArg some (by kernel_rfl))
 f298:=Tryz.func257.trans (congrArg some (by kernel_rfl))
 f299:=Tryz.func258.trans (congrArg some (by kernel_rfl))
 f300:=Tryz.func260.trans (congrArg some (by kernel_rfl))
 f301:=Tryz.func261.trans (congrArg some (by kernel_rfl))
 f328:=Tryz.func282.trans (congrArg some (by kernel_rfl))
 f329:=Tryz.func283.trans (congrArg some (by kernel_rfl))
 f330:=Tryz.func284.trans (congrArg some (by kernel_rfl))
 f331:=Tryz.func285.trans (congrArg some (by kernel_rfl))
 f332:=Tryz.func286.trans (congrArg some (by kernel_rfl))
 f343:=Tryz.func296.trans (congrArg some (by kernel_rfl))
 t0:=Tryz.underlying0
 a0:=Tryz.isAgg0
 z0:=Tryz.sizeOf0
 v0:=Tryz.zeroValue0
 t3:=Tryz.underlying3
 a3:=Tryz.isAgg3
 z3:=Tryz.sizeOf3
 v3:=Tryz.zeroValue3
 t4:=Tryz.underlying4
 a4:=Tryz.isAgg4
 z4:=Tryz.sizeOf4
 v4:=Tryz.zeroValue4
 t5:=Tryz.underlying5
 a5:=Tryz.isAgg5
 z5:=Tryz.sizeOf5
 v5:=Tryz.zeroValue5
 t9:=Tryz.underlying9
 a9:=Tryz.isAgg9
 z9:=Tryz.sizeOf9
 v9:=Tryz.zeroValue9
 t28:=Tryz.underlying22
 a28:=Tryz.isAgg22
 z28:=Tryz.sizeOf22
 v28:=Tryz.zeroValue22
 t46:=Tryz.underlying250
 a46:=Tryz.isAgg250
 z46:=Tryz.sizeOf250
 v46:=Tryz.zeroValue250
 t51:=Tryz.underlying285
 a51:=Tryz.isAgg285
 z51:=Tryz.sizeOf285
 v51:=Tryz.zeroValue285
 t53:=Tryz.underlying287
 a53:=Tryz.isAgg287
 z53:=Tryz.sizeOf287
 v53:=Tryz.zeroValue287
 t131:=Tryz.underlying282
 a131:=Tryz.isAgg282
 z131:=Tryz.sizeOf282
 v131:=Tryz.zeroValue282
 t182:=Tryz.underlying278
 a182:=Tryz.isAgg278
 z182:=Tryz.sizeOf278
 v182:=Tryz.zeroValue278
 t183:=Tryz.underlying279
 a183:=Tryz.isAgg279
 z183:=Tryz.sizeOf279
 v183:=Tryz.zeroValue279
 t218:=Tryz.underlying304
 a218:=Tryz.isAgg304
 z218:=Tryz.sizeOf304
 v218:=Tryz.zeroValue304
 t222:=Tryz.underlying308
 a222:=Tryz.isAgg308
 z222:=Tryz.sizeOf308
 v222:=Tryz.zeroValue308
 t228:=Tryz.underlying318
 a228:=Tryz.isAgg318
 z228:=Tryz.sizeOf318
 v228:=Tryz.zeroValue318
 t229:=Tryz.underlying275
 a229:=Tryz.isAgg275
 z229:=Tryz.sizeOf275
 v229:=Tryz.zeroValue275}
def Tryz.w8:Go.Shelf.Ren:=⟨fun|20=>139|n=>n,fun|22=>22|3=>3|4=>4|0=>0|n=>n,fun|n=>n⟩
theorem Tryz.yX:Go.Proofs.Lays2.n20 Tryz.prog Tryz.w8:={
 mixed:=by kernel_rfl
 f20:=Tryz.func139.trans (congrArg some (by kernel_rfl))
 t0:=Tryz.underlying0
 a0:=Tryz.isAgg0
 z0:=Tryz.sizeOf0
 v0:=Tryz.zeroValue0
 t3:=Tryz.underlying3
 a3:=Tryz.isAgg3
 z3:=Tryz.sizeOf3
 v3:=Tryz.zeroValue3
 t4:=Tryz.underlying4
 a4:=Tryz.isAgg4
 z4:=Tryz.sizeOf4
 v4:=Tryz.zeroValue4
 t22:=Tryz.underlying22
 a22:=Tryz.isAgg22
 z22:=Tryz.sizeOf22
 v22:=Tryz.zeroValue22
 i3:=by kernel_rfl}
end Go.Proofs
namespace Go.Proofs.YtddaejgfjlneoaaGreat
open Go.Sort Go.RowKit
theorem Ca(blk off cap:Nat)(zs:List Int)(w:World)(hH:Holds (Value.int .i64) w blk off zs.toArray)(hblk:blk<w.heap.size)(hsz:zs.length<4611686018427387904):
  Calls Tryz.prog 138 #[.slice (some ⟨blk,off,none⟩) zs.length cap] w fun e w'=>e= .returned (.tuple #[])∧∃n os,w'=grow (putRow (Value.int .i64) (Sort.ahead w n) blk off (zs.mergeSort fun x y=>decide (x≤y)).toArray) os:=
 Any.slices_Sort_int Tryz.Ba blk off cap zs w hH hblk hsz
theorem vg(p:Option Addr)(cap:Nat)(w:World):Calls Tryz.prog 138 #[.slice p 0 cap] w fun e w'=>e= .returned (.tuple #[])∧w'=w:=
 Any.slices_Sort_int_none Tryz.Ba p cap w
theorem xR(blk off cap:Nat)(zs:List Int)(w:World)(hH:Holds (Value.int .i64) w blk off zs.toArray)(hsz:zs.length≤9223372036854775807)(hcap:zs.length≤cap):
  Calls Tryz.prog 139 #[.slice (some ⟨blk,off,none⟩) zs.length cap] w fun e w'=>e= .returned (.slice (some ⟨blk,off,none⟩) (Lib.compact zs).length cap)∧∃q,w'=putRow (Value.int .i64) (Sort.ahead w q) blk off (Lib.compact zs++List.replicate (zs.length - (Lib.compact zs).length) 0).toArray:=
 Any.slices_Compact_int Tryz.yX blk off cap zs w hH hsz hcap
theorem rD(p:Option Addr)(cap:Nat)(w:World):Calls Tryz.prog 139 #[.slice p 0 cap] w fun e w'=>e= .returned (.slice p 0 cap)∧w'=w:=
 Any.slices_Compact_int_empty Tryz.yX p cap w
end Go.Proofs.YtddaejgfjlneoaaGreat
namespace Go.Proofs.YtddaejgfjlneoaaGreat
open Go.MW
theorem rF{H:bn}{w:World}{σ:List Ent}{v:Value}{ls:List Int}{x:Int}(hs:St H w σ)(hr:RI H v ls):
  Cl Tryz.prog 205 [v,I x] w fun u w'=>∃i,u=I i∧(0≤i↔x∈ls)∧St H w' σ:=by
 obtain ⟨a,c,rfl⟩:=RI.shape hr
 have hl:=(RI.len hr).2.2
 refine Cl.of Tryz.func205 rfl Tryz.ntmps205 (by simp) (aj (k:=0) rfl (aj (k:=1) rfl (bh))) ?_
 refine .ai (.z zg (.nil (.seq (.ai (.z zm (.z (cM aa) (.z zm (.nil ?_))))))))
 refine .for (N:=ls.length) (J:=fun k fr w=>fr=[(1,I x),(0,.slice a ls.length c)]∧St H w σ∧∀j<k,∀y,ls[j]? =some y→¬x=y) (by omega) ?_ ?_ ?_
 ·exact .mk ⟨rfl,hs,fun j hj=>by omega⟩
 ·rintro k fr w hk ⟨rfl,hs,hno⟩
  obtain ⟨y,hy⟩:=nth hk
  refine .block (.ai (.z zm (.z zg (.nil (.ai (.z zm (.z zm (.z zm ?_))))))))
  refine .ixY hs hr rfl rfl aa ae hy rfl ?_;intro b14 o14 hc14
  refine .q hs (aM rfl af hc14) ?_
  refine .z fA (.nil ?_)
  refine (.bJ rfl (fun hc16=>?_) (fun hc16=>?_))
  ·refine .ai (.z zm (.z zg (.nil ?_)))
   refine .ret (rB (rT (rB (rT (Fin.bI Tryz.results205 rfl ?_)))))
   exact ⟨_,rfl,⟨fun _=>by rw [hc16];exact List.mem_of_getElem? hy,fun _=>by omega⟩,hs⟩
  ·refine .skip ?_
   refine nB (nT ?_)
   exact .mk ⟨rfl,hs,eK hno hy hc16⟩
 ·rintro fr w ⟨rfl,hs,hno⟩
  refine nT ?_
  refine .ai (.z zg (.nil ?_))
  refine .ret (Fin.bI Tryz.results205 rfl ?_)
  exact ⟨_,rfl,⟨fun h=>by omega,fun h=>by
   obtain ⟨j,hj⟩:=List.getElem?_of_mem h
   exact (hno j (List.getElem?_eq_some_iff.1 hj).1 x hj rfl).elim⟩,hs⟩
theorem oG{H:bn}{w:World}{σ:List Ent}{v:Value}{ls:List Int}{x:Int}(hs:St H w σ)(hr:RI H v ls):
  Cl Tryz.prog 130 [v,I x] w fun u w'=>u= .bool (decide (x∈ls))∧St H w' σ:=by
 refine Cl.of Tryz.func130 rfl Tryz.ntmps130 (by simp) (aj (k:=0) rfl (aj (k:=1) rfl (bh))) ?_
 refine .ai (.z zg (.nil (.ai (.z zm (.z zm ?_)))))
 refine .o (.call Tryz.call205 rfl (rF hs hr) ?_);rintro _ w ⟨i,rfl,hi,hs⟩
 refine .z wI (.z zg (.nil ?_))
 refine .ret (Fin.bI Tryz.results130 rfl ?_)
 exact ⟨by simp only [hi],hs⟩
set_option maxHeartbeats 1000000 in
theorem tl{H:bn}{w:World}{σ:List Ent}{v:Value}{s:cB}{g:Nat}{cap:List Value}(q:Nat→Lim→Bool)(hs:St H w σ)(hr:RSy H v s)(hlen:s.cz.length≤4398046510976)(hc:∀args w,(callFunc g args).run Tryz.prog w= .ok (.enter g args) w)
  (hp:∀w σ (k:Nat) (l:Lim),s.cz[k]? =some l→St H w σ→Cl Tryz.prog g ([I k,.agg l.c.toArray]++cap) w fun u w'=>u= .bool (q k l)∧St H w' σ):
  Cl Tryz.prog 131 [v,.func (.func g) #[] cap.toArray] w fun u w'=>∃H1,HLe H H1∧RSy H1 u ⟨s.many,gU q s.cz s.cz.length⟩∧St H1 w' σ:=by
 obtain ⟨ul,rfl,hl⟩:=hr
 obtain ⟨al,cl,rfl⟩:=RL.shape hl
 refine Cl.of Tryz.func131 rfl Tryz.ntmps131 (by simp) (aj (k:=0) rfl (aj (k:=1) rfl (bh))) ?_
 refine .ai ?_
 refine .o (.box hs rfl rfl ?_);intro b2 w hs
 refine .o (.alloc hs bY rfl ?_);intro b4 w hs
 refine .nil (.ai (.z (zfa bE) (.y hs (zld af) (.z (zbd [_,_] gg) ?_))))
 refine .o (.alloc hs bY rfl ?_);intro b5 w hs
 refine .o (.aS (vs:=[_,_]) hs rfl rfl aB ?_);intro w hs
 refine .nil (.seq (.ai (.z (zfa bD) (.y hs (zld cD) (.z (cM aQ) (.z zm (.nil ?_)))))))
 refine .for (N:=s.cz.length) (J:=fun k fr w=>fr=[(12,.slice al s.cz.length cl),(1,.func (.func g) #[] cap.toArray),(5,.pointer (some ⟨b5,0,none⟩)),(4,.pointer (some ⟨b4,0,none⟩))]∧∃vL en,cu 4 vL (fQ (gU q s.cz k)) en∧St H w (.blk b5 [I s.many,vL]:: .blk b4 [I 0,.slice none 0 0]::en::σ)) (by omega) ?_ ?_ ?_
 ·exact .mk ⟨rfl,_,_,.nil 4 none,hs.nul.sub (by repeat (first|exact Sub.refl _|constructor|apply Sub.weaken))⟩
 ·rintro k fr w hk ⟨rfl,vL,en,hO,hs⟩
  obtain ⟨x,hx⟩:=nth (l:=s.cz) hk
  obtain ⟨aL,lL,cL,rfl,hL⟩:=hO.shape
  have hpl:=ka q s.cz k
  refine .block (.ai (.z zm ?_))
  refine .ixX hs hl rfl rfl aQ bj hx rfl ?_;intro b17 o17 hc17
  refine .q hs (cj (vs:=x.c) rfl dY bj hc17) ?_
  refine .o (.alloc hs dB rfl ?_);intro b7 w hs
  refine .z zg ?_
  refine .o (.aS (vs:=x.c) hs rfl rfl bj ?_);intro w hs
  refine .nil (.ai (.z zm (.z zm (.y hs (zls [_,_,_,_] dY bj) ?_))))
  refine .o (.p5 (first:=[]) (cap:=cap) rfl rfl hc (hp _ _ k x hx hs) ?_);rintro _ w ⟨rfl,hs⟩
  refine .nil ?_
  refine (.cond rfl (fun hc22=>?_) (fun hc22=>?_))
  ·refine .region (.z (zfa bD) (.y hs (zld cD) (.y hs (zls [_,_,_,_] dY bj) ?_)))
   refine .o (.buildSlice (cells:=x.c) hs kX rfl rfl ?_);intro b26 w hs
   refine .o (.append (ys:=x.c) hs bQ rfl rfl hO (.own .here rfl rfl) (by simp [Lim.c,Value.oneCell']) (fun l h=>by rw [dp] at h;omega) ?_);intro v27 en27 w hO2 hs
   obtain ⟨a27,l27,c27,rfl,h27⟩:=hO2.shape
   refine .z (zfa bD) ?_
   refine .o (.store hs rfl rfl gR ?_);intro w hs
   refine .nil ?_
   refine nB (nT ?_)
   have e:gU q s.cz (k+1)=gU q s.cz k++[x]:=by rw [kr hx,if_pos hc22]
   rw [←zw,←fw,←e] at hO2
   exact .mk ⟨rfl,_,_,hO2,hs.sub (by repeat (first|exact Sub.refl _|constructor|apply Sub.weaken))⟩
  ·refine .skip ?_
   refine nB (nT ?_)
   have e:gU q s.cz (k+1)=gU q s.cz k:=by rw [kr hx,hc22];simp
   exact .mk ⟨rfl,_,_,by rw [e];exact hO,hs.sub (by repeat (first|exact Sub.refl _|constructor|apply Sub.weaken))⟩
 ·rintro fr w ⟨rfl,vL,en,hO,hs⟩
  obtain ⟨aL,lL,cL,rfl,hL⟩:=hO.shape
  have hpl:=ka q s.cz s.cz.length
  refine nT ?_
  refine .ai (.y hs (zls [_,_] aU aB) ?_)
  refine .o (.aS (vs:=[_,_]) hs rfl rfl aB ?_);intro w hs
  refine .nil ?_
  refine .ret ?_
  obtain ⟨H1,g1,r1,hs⟩:=cu.cP (m:=4) (cs:=(gU q s.cz s.cz.length).map Lim.c) hO (fun c hc=>by simp only [List.mem_map] at hc;obtain ⟨x,_,rfl⟩:=hc;rfl) (by omega) (by rw [List.length_map];omega) hs (by repeat constructor)
  exact Fin.iG [] [] hs fun w hs=>⟨_,results1 Tryz.results131 (dH (vs:=[_,_]) hs rfl aU aB),H1,g1,⟨_,rfl,r1⟩,hs.out⟩
theorem tm{H:bn}{w:World}{σ:List Ent}{b:Nat}{i:Int}{l:Lim}{vb:Value}{bs:List Int}(hs:St H w σ)(hb:Row H b [vb])(hr:RI H vb bs):
  Cl Tryz.prog 207 [I i,.agg l.c.toArray,.pointer (some ⟨b,0,none⟩)] w fun u w'=>u= .bool (!decide (l.S∈bs))∧St H w' σ:=by
 have hb0:cellAt H b 0=some vb:=by rw [hb.cell];rfl
 refine Cl.of Tryz.func207 rfl Tryz.ntmps207 (by simp) (aj (k:=0) rfl (aj (k:=1) rfl (aj (k:=2) rfl (bh)))) ?_
 refine .ai ?_
 refine .o (.box hs rfl rfl ?_);intro b4 w hs
 refine .z zg (.nil (.ai (.y hs (zld ak) (.z (zfa gd) (.y hs (zld af) ?_)))))
 refine .o (.call Tryz.call130 rfl (oG hs hr) ?_);rintro _ w ⟨rfl,hs⟩
 refine .z iI (.z zg (.nil ?_))
 refine .ret (Fin.bI Tryz.results207 rfl ?_)
 exact ⟨rfl,hs.out⟩
theorem qa{H:bn}{w:World}{σ:List Ent}{v vb:Value}{s:cB}{bs:List Int}(hs:St H w σ)(hr:RSy H v s)(hb:RI H vb bs)(hlen:s.cz.length≤4398046510976):
  Cl Tryz.prog 136 [v,vb] w fun u w'=>∃H1,HLe H H1∧RSy H1 u (s.wo bs)∧St H1 w' σ:=by
 obtain ⟨ul,rfl,hl⟩:=hr
 obtain ⟨al,cl,rfl⟩:=RL.shape hl
 obtain ⟨ab,cb,rfl⟩:=RI.shape hb
 refine Cl.of Tryz.func136 rfl Tryz.ntmps136 (by simp) (aj (k:=0) rfl (aj (k:=1) rfl (bh))) ?_
 refine .ai ?_
 refine .o (.box hs rfl rfl ?_);intro b2 w hs
 refine .o (.box hs rfl rfl ?_);intro b3 w hs
 refine .o (.alloc hs bY rfl ?_);intro b4 w hs
 refine .nil (.ai (.y hs (zls [_,_] aU aB) ?_))
 refine .q hs (dC (f:=[]) (c:=[_]) rfl rfl) ?_
 obtain ⟨H1,hle1,r3,hs⟩:=hs.cP (b:=b3) (by repeat constructor)
 refine .o (.call Tryz.call131 rfl (tl (g:=207) (cap:=[.pointer (some ⟨b3,0,none⟩)]) (s:=s) (fun _ l=> !decide (l.S∈bs)) hs ⟨_,rfl,hl.mono hle1⟩ hlen Tryz.call207 (fun w σ k l _ hs=>tm hs r3 (hb.mono hle1))) ?_);rintro _ w ⟨H2,hle2,⟨u7,rfl,hL7⟩,hs⟩
 rw [uH] at hL7
 obtain ⟨a7,c7,rfl⟩:=RL.shape hL7
 refine .o (.aS (vs:=[_,_]) hs rfl rfl aB ?_);intro w hs
 refine .nil ?_
 refine .ret ?_
 exact Fin.iG [] [] hs fun w hs=>⟨_,results1 Tryz.results136 (dH (vs:=[_,_]) hs rfl aU aB),H2,hle1.trans hle2,⟨_,rfl,hL7⟩,hs.out⟩
theorem sI{H:bn}{w:World}{σ:List Ent}{b cap:Nat}{xs:List Int}{sp:List Value}(hs:St H w (.blk b (Is xs++sp)::σ))(hl:xs.length≤17592186044416):
  Cl Tryz.prog 138 [.slice (some ⟨b,0,none⟩) xs.length cap] w fun u w'=>u= .tuple #[]∧St H w' (.blk b (Is (xs.mergeSort fun x y=>decide (x≤y))++sp)::σ):=
 (Ca b 0 cap xs w hs.holds (hs.lt .here) (by omega)).mono fun e w' ⟨he,m,os,hw⟩=>⟨_,he,rfl,by
  rw [hw]
  exact (hs.putRow (List.length_mergeSort _)).grow os⟩
theorem rE{H:bn}{w:World}{σ:List Ent}{a:Option Addr}{cap:Nat}(hs:St H w σ):
  Cl Tryz.prog 138 [.slice a 0 cap] w fun u w'=>u= .tuple #[]∧St H w' σ:=
 (vg a cap w).mono fun e w' ⟨he,hw⟩=>⟨_,he,rfl,by rw [hw];exact hs⟩
theorem pz{H:bn}{w:World}{σ:List Ent}{b cap:Nat}{xs:List Int}{sp:List Value}(hs:St H w (.blk b (Is xs++sp)::σ))(hl:xs.length≤17592186044416)(hcap:xs.length≤cap):
  Cl Tryz.prog 139 [.slice (some ⟨b,0,none⟩) xs.length cap] w fun u w'=>u= .slice (some ⟨b,0,none⟩) (Go.Lib.compact xs).length cap∧St H w' (.blk b (Is (Go.Lib.compact xs)++(Is (List.replicate (xs.length - (Go.Lib.compact xs).length) 0)++sp))::σ):=
 (xR b 0 cap xs w hs.holds (by omega) hcap).mono fun e w' ⟨he,m,hw⟩=>⟨_,he,rfl,by
  rw [hw]
  have h:=Go.Lib.compact_length_le xs
  have:=hs.putRow (m:=m) (ys:=Go.Lib.compact xs++List.replicate (xs.length - (Go.Lib.compact xs).length) 0) (by simp;omega)
  have e2:Is (Go.Lib.compact xs++List.replicate (xs.length - (Go.Lib.compact xs).length) 0)=Is (Go.Lib.compact xs)++Is (List.replicate (xs.length - (Go.Lib.compact xs).length) 0):=List.map_append
  rw [e2,List.append_assoc] at this
  exact this⟩
theorem oH{H:bn}{w:World}{σ:List Ent}{a:Option Addr}{cap:Nat}(hs:St H w σ):
  Cl Tryz.prog 139 [.slice a 0 cap] w fun u w'=>u= .slice a 0 cap∧St H w' σ:=
 (rD a cap w).mono fun e w' ⟨he,hw⟩=>⟨_,he,rfl,by rw [hw];exact hs⟩
theorem um{H:bn}{w:World}{σ:List Ent}{v:Value}{xs:List Int}{en:Ent}(hs:St H w (en::σ))(hO:cu 1 v (Is xs) en)(hl:xs.length≤17592186044416):
  Cl Tryz.prog 204 [v] w fun u w'=>∃L en',cu 1 u (Is L) en'∧L.length≤xs.length∧gH (fun x=>x∈xs) L∧St H w' (en'::σ):=by
 rcases hO with ⟨a,rfl,h0,rfl⟩|⟨b,len,cap,sp,rfl,rfl,h3,h4,h5⟩
 ·have hx:xs=[]:=by simpa using h0
  subst hx
  refine Cl.of Tryz.func204 rfl Tryz.ntmps204 (by simp) (aj (k:=0) rfl (bh)) ?_
  refine .ai (.z zg (.nil (.ai (.z zm ?_))))
  refine .o (.call Tryz.call138 rfl (rE hs) ?_);rintro _ w ⟨rfl,hs⟩
  refine .nil (.ai (.z zm ?_))
  refine .o (.call Tryz.call139 rfl (oH hs) ?_);rintro _ w ⟨rfl,hs⟩
  refine .z zg (.nil ?_)
  refine .ret (Fin.bI Tryz.results204 rfl ?_)
  exact ⟨[],_,.nil 1 a,by simp,.nil (by simp),hs.out⟩
 ·obtain rfl:len=xs.length:=by simpa using h3.symm
  refine Cl.of Tryz.func204 rfl Tryz.ntmps204 (by simp) (aj (k:=0) rfl (bh)) ?_
  refine .ai (.z zg (.nil (.ai (.z zm ?_))))
  refine .o (.call Tryz.call138 rfl (sI hs hl) ?_);rintro _ w ⟨rfl,hs⟩
  refine .nil (.ai (.z zm ?_))
  have hml:(xs.mergeSort fun x y=>decide (x≤y)).length=xs.length:=List.length_mergeSort _
  rw [←hml]
  refine .o (.call Tryz.call139 rfl (pz hs (by omega) (by omega)) ?_);rintro _ w ⟨rfl,hs⟩
  refine .z zg (.nil ?_)
  refine .ret (Fin.bI Tryz.results204 rfl ?_)
  have hcl:=Go.Lib.compact_length_le (xs.mergeSort fun x y=>decide (x≤y))
  have h4':xs.length+sp.length=cap:=by simpa using h4
  exact ⟨_,_,.inr ⟨b,_,cap,Is (List.replicate ((xs.mergeSort fun x y=>decide (x≤y)).length - (Go.Lib.compact (xs.mergeSort fun x y=>decide (x≤y))).length) 0)++sp,rfl,rfl,by simp,by simp;omega,by omega⟩,by omega,xU,hs⟩
theorem kW{H:bn}{w:World}{σ:List Ent}{v:Value}{s:cB}(hs:St H w σ)(hr:RSy H v s)(hlen:s.cz.length≤4398046510976):
  Cl Tryz.prog 129 [v] w fun u w'=>∃L en,cu 1 u (Is L) en∧L.length≤s.cz.length∧gH (Bx s.cz) L∧St H w' (en::σ):=by
 obtain ⟨ul,rfl,hl⟩:=hr
 obtain ⟨al,cl,rfl⟩:=RL.shape hl
 refine Cl.of Tryz.func129 rfl Tryz.ntmps129 (by simp) (aj (k:=0) rfl (bh)) ?_
 refine .ai ?_
 refine .o (.box hs rfl rfl ?_);intro b1 w hs
 refine .z zg (.nil (.ai (.z zg (.nil (.seq (.ai (.z (zfa bD) (.y hs (zld cD) (.z (cM aQ) ?_)))))))))
 refine .z zm (.nil ?_)
 refine .for (N:=s.cz.length) (J:=fun k fr w=>∃v3 en,cu 1 v3 (Is ((s.cz.take k).map Lim.S)) en∧fr=[(3,v3),(7,.slice al s.cz.length cl)]∧St H w (en::σ)) (by omega) ?_ ?_ ?_
 ·exact .mk ⟨_,_,.nil 1 none,rfl,hs.nul.sub (by repeat (first|exact Sub.refl _|constructor|apply Sub.weaken))⟩
 ·rintro k fr w hk ⟨v3,en,hO,rfl,hs⟩
  obtain ⟨x,hx⟩:=nth (l:=s.cz) hk
  obtain ⟨a3,l3,c3,rfl,h3⟩:=hO.shape
  refine .block (.ai ?_)
  refine .ixX hs hl rfl rfl aQ bj hx rfl ?_;intro b11 o11 hc11
  refine .q hs (cj (vs:=x.c) rfl dY bj hc11) ?_
  refine .o (.alloc hs dB rfl ?_);intro b5 w hs
  refine .o (.aS (vs:=x.c) hs rfl rfl bj ?_);intro w hs
  refine .nil (.region (.z zm (.z (zfa gd) (.y hs (zld af) ?_))))
  refine .o (.buildSlice (cells:=[_]) hs cV rfl rfl ?_);intro b16 w hs
  refine .o (.append (ys:=Is [x.S]) hs bP rfl rfl hO (.own .here rfl rfl) (fL _) (fun l' h=>by simp at h;omega) ?_);intro v17 en17 w hO2 hs
  rw [←List.map_append] at hO2
  refine .z zg (.nil ?_)
  refine nB (nT ?_)
  exact .mk ⟨_,_,by rw [dK hx,List.map_append];exact hO2,rfl,hs.sub (by repeat (first|exact Sub.refl _|constructor|apply Sub.weaken))⟩
 ·rintro fr w ⟨v3,en,hO,rfl,hs⟩
  rw [List.take_length] at hO
  refine nT ?_
  refine .ai (.z zm ?_)
  refine .o (.call Tryz.call204 rfl (um hs hO (by rw [List.length_map];omega)) ?_);rintro v20 w ⟨L,en',hO',hL,hR,hs⟩
  rw [List.length_map] at hL
  refine .z zg (.nil ?_)
  refine .ret (Fin.bI Tryz.results129 rfl ?_)
  exact ⟨L,en',hO',hL,hR.congr fun x=>by simp [Bx],hs⟩
theorem nU{H:bn}{w:World}{σ:List Ent}{v:Value}{en:Ent}{xs:List Int}{g:Nat}{cap:List Value}(q:Int→Bool)(hs:St H w (en::σ))(hO:cu 1 v (Is xs) en)(hl:xs.length≤17592186044416)(hc:∀args w,(callFunc g args).run Tryz.prog w= .ok (.enter g args) w)
  (hp:∀H' w σ (n:Int),n∈xs→HLe H H'→St H' w σ→Cl Tryz.prog g ([I n]++cap) w fun u w'=>∃H1,HLe H' H1∧u= .bool (q n)∧St H1 w' σ):
  Cl Tryz.prog 206 [v,.func (.func g) #[] cap.toArray] w fun u w'=>∃H1 i,HLe H H1∧u=I i∧((i= -1∧∀x∈xs,q x=false)∨(∃(k:Nat) (x:Int),i=k∧xs[k]? =some x∧q x=true∧∀j<k,∀y,xs[j]? =some y→q y=false))∧St H1 w' (en::σ):=by
 obtain ⟨a,c,rfl⟩:=hO.yH
 refine Cl.of Tryz.func206 rfl Tryz.ntmps206 (by simp) (aj (k:=0) rfl (aj (k:=1) rfl (bh))) ?_
 refine .ai (.z zg (.nil (.seq (.ai (.z zm (.z (cM aa) (.z zm (.nil ?_))))))))
 refine .for (N:=xs.length) (J:=fun k fr w=>fr=[(1,.func (.func g) #[] cap.toArray),(0,.slice a xs.length c)]∧∃H1,HLe H H1∧(∀j<k,∀y,xs[j]? =some y→q y=false)∧St H1 w (en::σ)) (by omega) ?_ ?_ ?_
 ·exact .mk ⟨rfl,H,HLe.refl H,fun j hj=>by omega,hs⟩
 ·rintro k fr w hk ⟨rfl,H1,hle1,hno,hs⟩
  have hx:=br hk
  obtain ⟨b,c',sp,hv,rfl,_⟩:=hO.blk (by omega)
  cases hv
  refine .block (.ai (.z zm (.z zg (.nil (.ai (.z zm (.z zm (.z zm (.z (zix aa ae) ?_)))))))))
  refine .q hs (dE rfl af (hv:=fm hk sp)) ?_
  refine .o (.p5 (first:=[]) (cap:=cap) rfl rfl hc (hp _ _ _ (gi xs k) (List.mem_of_getElem? hx) hle1 hs) ?_);rintro _ w ⟨H2,hle2,rfl,hs⟩
  refine .nil ?_
  refine (.cond rfl (fun hc16=>?_) (fun hc16=>?_))
  ·refine .ai (.z zm (.z zg (.nil ?_)))
   refine .ret (rB (rT (rB (rT (Fin.bI tM rfl ?_)))))
   exact ⟨H2,_,hle1.trans hle2,rfl,.inr ⟨k,_,rfl,hx,hc16,hno⟩,hs⟩
  ·refine .skip ?_
   refine nB (nT ?_)
   exact .mk ⟨rfl,H2,hle1.trans hle2,eK hno hx hc16,hs⟩
 ·rintro fr w ⟨rfl,H1,hle1,hno,hs⟩
  refine nT ?_
  refine .ai (.z zg (.nil ?_))
  refine .ret (Fin.bI tM rfl ?_)
  exact ⟨H1,_,hle1,rfl,.inl ⟨rfl,fun x hx=>by
   obtain ⟨j,hj⟩:=List.getElem?_of_mem hx
   exact hno j (List.getElem?_eq_some_iff.1 hj).1 x hj⟩,hs⟩
set_option maxHeartbeats 1000000 in
theorem mI{H:bn}{w:World}{σ:List Ent}{v:Value}{en:Ent}{xs:List Int}{g:Nat}{cap:List Value}(q:Int→Bool)(hs:St H w (en::σ))(hO:cu 1 v (Is xs) en)(hl:xs.length≤17592186044416)(hc:∀args w,(callFunc g args).run Tryz.prog w= .ok (.enter g args) w)
  (hp:∀H' w σ (n:Int),n∈xs→HLe H H'→St H' w σ→Cl Tryz.prog g ([I n]++cap) w fun u w'=>∃H1,HLe H' H1∧u= .bool (q n)∧St H1 w' σ):
  Cl Tryz.prog 150 [v,.func (.func g) #[] cap.toArray] w fun u w'=>∃H1 en',HLe H H1∧cu 1 u (Is (xs.filter fun x=> !q x)) en'∧St H1 w' (en'::σ):=by
 obtain ⟨a,c,rfl⟩:=hO.yH
 refine Cl.of Tryz.func150 rfl Tryz.ntmps150 (by simp) (aj (k:=0) rfl (aj (k:=1) rfl (bh))) ?_
 refine .ai (.z zg (.nil (.ai (.z zm (.z zm ?_)))))
 refine .o (.call Tryz.call206 rfl (nU q hs hO hl hc hp) ?_);rintro _ w ⟨H1,i0,hle1,rfl,hcase,hs⟩
 refine .z zg (.nil (.seq (.ai (.z zm (.z fA (.nil ?_))))))
 refine (.bJ rfl (fun hc12=>?_) (fun hc12=>?_))
 ·refine .ai (.z zm (.z zg (.nil ?_)))
  refine .ret (rT (Fin.bI Tryz.results150 rfl ?_))
  have hno:∀x∈xs,q x=false:=by
   rcases hcase with ⟨_,h⟩|⟨k,x,h,_⟩
   ·exact h
   ·omega
  have e:xs.filter (fun x=> !q x)=xs:=List.filter_eq_self.2 fun x hx=>by simp [hno x hx]
  exact ⟨H1,en,hle1,by rw [e];exact hO,hs⟩
 ·refine .skip ?_
  refine nT ?_
  refine .seq (.ai (.z zm ?_))
  obtain ⟨k0,x0,rfl,hx0,hq0,hno⟩:∃(k:Nat) (x:Int),i0=k∧xs[k]? =some x∧q x=true∧∀j<k,∀y,xs[j]? =some y→q y=false:=hcase.resolve_left fun h=>hc12 h.1
  have hk0:=(List.getElem?_eq_some_iff.1 hx0).1
  obtain ⟨b,c',sp,hv,rfl,hc'⟩:=hO.blk (by omega)
  cases hv
  refine .z cA (.z zg (.nil (.block ?_)))
  refine .loop (fun p:Nat×Nat=>⟨42,[],[(5,I (p.1:Int)),(6,I (p.2:Int)),(1,.func (.func g) #[] cap.toArray),(0,.slice (some ⟨b,0,none⟩) xs.length c)]⟩)
   (fun p w=>k0<p.2∧∃Y H1,HLe H H1∧yB q xs Y p.1 p.2∧St H1 w (.blk b (Is Y++sp)::σ))
   (fun p=>xs.length - p.2) (k0,k0+1) (.cons rfl (.cq rfl (by dsimp only;omega) (by repeat (first|exact .nil rfl rfl|refine .cons rfl ?_))))
   ⟨by dsimp only;omega,xs,H1,hle1,.start hx0 hq0 hno,hs⟩ ?_
  clear hs hle1 hcase
  rintro ⟨i,j⟩ w ⟨hkj,Y,H1,hle1,hD,hs⟩
  dsimp only at hkj hD ⊢
  have hYl:=hD.len
  have hij:=hD.le
  have hjl:=hD.jl
  have hilt:=hD.lt hx0 hq0 hkj
  refine .seq (.ai (.z zm (.z zm (.z (cM aa) (.z fN (.nil ?_))))))
  refine (.bJ rfl (fun hc19=>?_) (fun hc19=>?_))
  ·refine .skip ?_
   refine nT ?_
   refine .seq (.block (.ai (.z zm (.z zm ?_))))
   have hj:j<Y.length:=by omega
   have hx:xs[j]? =some (gi Y j):=by rw [hD.rest j (Nat.le_refl _)];exact br (by omega)
   refine .z (zix aa ae) ?_
   refine .q hs (dE rfl af (hv:=fm hj sp)) ?_
   refine .z zg (.nil (.ai (.z zm (.z zm ?_))))
   refine .o (.p5 (first:=[]) (cap:=cap) rfl rfl hc (hp _ _ _ (gi Y j) (List.mem_of_getElem? hx) hle1 hs) ?_);rintro _ w ⟨H2,hle2,rfl,hs⟩
   refine .z iI (.nil ?_)
   refine (.cond rfl (fun hc29=>?_) (fun hc29=>?_))
   ·refine .ai (.z zm (.z zm (.z zm (.z (zix aa ae) ?_))))
    refine .o (.store hs rfl rfl ae ?_ .here (kz (show i<Y.length by omega) sp) (gY (show i<Y.length by omega) sp _));intro w hs
    refine .nil (.region (.z zm (.z cA (.z zg (.nil ?_)))))
    refine nB (nT ?_)
    refine .region (.z zm (.z cA (.z zg (.nil ?_))))
    refine nT ?_
    exact ⟨(i+1,j+1),.cq rfl (by dsimp only;omega) (.cq rfl (by dsimp only;omega) (by repeat (first|exact .nil rfl rfl|refine .cons rfl ?_))),⟨by dsimp only;omega,_,H2,hle1.trans hle2,hD.keep hx (by simpa using hc29),hs⟩,by dsimp only;omega⟩
   ·refine .skip ?_
    refine nB (nT ?_)
    refine .region (.z zm (.z cA (.z zg (.nil ?_))))
    refine nT ?_
    exact ⟨(i,j+1),.cons rfl (.cq rfl (by dsimp only;omega) (by repeat (first|exact .nil rfl rfl|refine .cons rfl ?_))),⟨by dsimp only;omega,_,H2,hle1.trans hle2,hD.skip hx (by simpa using hc29),hs⟩,by dsimp only;omega⟩
  ·refine .exit ?_
   refine xT (xT (xB (nT ?_)))
   refine .ai (.z zm (.z zm ?_))
   obtain rfl:xs.length=j:=by omega
   refine .q hs (wS (k:=i) rfl rfl aa ae (by omega) (by omega)) ?_
   rw [show 0+i*1=i by omega]
   refine .o (.clearI (c:=Is Y++sp) hs rfl aa bH (by simp;omega) ?_);intro w hs
   rw [hD.done sp] at hs
   have hil:=hD.il
   rw [List.take_length] at hil
   refine .nil (.ai (.z zm (.z zm ?_)))
   refine .q hs (sZ (k:=i) rfl rfl aa ae (by omega)) ?_
   refine .z zg (.nil ?_)
   refine .ret (Fin.bI Tryz.results150 rfl ?_)
   exact ⟨H1,_,hle1,.inr ⟨b,i,c,List.replicate (xs.length - i) (I 0)++sp,rfl,rfl,by simp [hil],by simp [←hil];omega,by omega⟩,hs⟩
def ur(L:List Int):List (List Value):=(List.range L.length).map fun j=>[I ((L.length - 1 - j:Nat):Int),I (gi L (L.length - 1 - j))]
theorem kZ(L:List Int):(ur L).length=L.length:=by simp [ur]
theorem xv{L:List Int}{j:Nat}(h:j<(ur L).length):(ur L)[j]=[I ((L.length - 1 - j:Nat):Int),I (gi L (L.length - 1 - j))]:=by simp [ur]
theorem mK{H:bn}{b:Nat}{v:Value}{L:List Int}(hb:Row H b [v])(hr:RI H v L):Iter Tryz.prog 231 [.pointer (some ⟨b,0,none⟩)] H (ur L):=by
 intro l II Ix _ _ hy H0 σb0 σf w hle hI0 hs
 obtain ⟨a,c,rfl⟩:=RI.shape hr
 have hlen:=(RI.len hr).2.2
 have hb0:cellAt H0 b 0=some (.slice a L.length c):=cellAt.mono (hb.at 0) hle
 refine Cl.of Tryz.func231 rfl Tryz.ntmps231 (by simp) (aj (k:=0) rfl (aj (k:=1) rfl (bh))) ?_
 refine .ai (.y hs (zld ak) (.z (cM aa) (.z gM (.z zg (.nil (.block ?_))))))
 refine .loop (fun j:Nat=>⟨19,[],[(3,I ((L.length:Int) - 1 - (j:Int))),(0,.func (.yield l) #[] #[]),(1,.pointer (some ⟨b,0,none⟩))]⟩)
  (fun j w=>j≤L.length∧∃H1 σb,HLe H H1∧HLe H0 H1∧II j H1 σb∧St H1 w (σb++σf)) (fun j=>L.length - j) 0 (.cq rfl (by simp) (by repeat (first|exact .nil rfl rfl|refine .cons rfl ?_)))
  ⟨Nat.zero_le _,H0,σb0,hle,HLe.refl _,hI0,hs⟩ ?_
 clear hs hI0
 rintro j w ⟨hj,H1,σb,hle1,hle0,hI,hs⟩
 have hb1:cellAt H1 b 0=some (.slice a L.length c):=cellAt.mono hb0 hle0
 refine .seq (.ai (.z zm (.z wI (.nil ?_))))
 refine (.bJ rfl (fun hc8=>?_) (fun hc8=>?_))
 ·refine .skip ?_
  refine nT ?_
  refine .seq (.block (.ai (.z zm (.z zm (.y hs (zld ak) (.z zm ?_))))))
  refine .ixY hs (hr.mono hle1) rfl rfl aa ae (br (l:=L) (i:=L.length - 1 - j) (by omega)) (by omega) ?_;intro b15 o15 hc15
  refine .q hs (aM rfl af hc15) ?_
  have hk':j<(ur L).length:=by rw [kZ];omega
  have hyd:=hy j hk' H1 σb σf w hle1 hI hs
  rw [xv hk',show ((L.length - 1 - j:Nat):Int)=(L.length:Int) - 1 - (j:Int) by omega] at hyd
  refine .o (.yield rfl rfl hyd ?_);rintro v17 w ⟨H2,σ2,g1,hs,g3⟩
  obtain ⟨bb,rfl,gT,gF⟩:=oA g3
  refine .z iI (.nil ?_)
  refine (.cond rfl (fun hc18=>?_) (fun hc18=>?_))
  ·refine .ret (rB (rT (rT (rB (Fin.ret0 Tryz.results231 ?_)))))
   exact ⟨H2,σ2,hle0.trans g1,hs,.inr (gF (by simpa using hc18))⟩
  ·refine .skip ?_
   refine nB (nT ?_)
   refine .region (.z zm (.z gM (.z zg (.nil ?_))))
   refine nT ?_
   exact ⟨j+1,.cq rfl (by simp;omega) (by repeat (first|exact .nil rfl rfl|refine .cons rfl ?_)),⟨by omega,H2,σ2,hle1.trans g1,hle0.trans g1,gT (by simpa using hc18),hs⟩,by omega⟩
 ·refine .exit ?_
  refine xT (xT (xB ?_))
  obtain rfl:L.length=j:=by omega
  exact Fin.xC Tryz.results231 ⟨H1,σb,hle0,hs,.inl (by rw [kZ];exact hI)⟩
theorem nV{H:bn}{w:World}{σ:List Ent}{v:Value}{L:List Int}(hs:St H w σ)(hr:RI H v L):
  Cl Tryz.prog 180 [v] w fun u w'=>∃H1 b,HLe H H1∧u= .func (.func 231) #[] #[.pointer (some ⟨b,0,none⟩)]∧Iter Tryz.prog 231 [.pointer (some ⟨b,0,none⟩)] H1 (ur L)∧St H1 w' σ:=by
 obtain ⟨a,c,rfl⟩:=RI.shape hr
 refine Cl.of Tryz.func180 rfl Tryz.ntmps180 (by simp) (aj (k:=0) rfl (bh)) ?_
 refine .ai ?_
 refine .o (.box hs rfl rfl ?_);intro b1 w hs
 refine .z zg (.nil (.ai ?_))
 refine .q hs (dC (f:=[]) (c:=[_]) rfl rfl) ?_
 refine .z zg (.nil ?_)
 refine .ret (Fin.bI Tryz.results180 rfl ?_)
 obtain ⟨H1,g1,g2,hs⟩:=hs.cP .here
 exact ⟨H1,b1,g1,rfl,mK g2 (hr.mono g1),hs⟩
theorem rY{H:bn}{w:World}{σ:List Ent}{n m:Int}{b:Nat}(hs:St H w σ)(hb:Row H b [I m]):
  Cl Tryz.prog 181 [I n,.pointer (some ⟨b,0,none⟩)] w fun u w'=>u= .bool (decide (n=m))∧St H w' σ:=by
 have hb0:cellAt H b 0=some (I m):=hb.at 0
 refine Cl.of Tryz.func181 rfl Tryz.ntmps181 (by simp) (aj (k:=0) rfl (aj (k:=1) rfl (bh))) ?_
 refine .ai (.z zg (.nil (.ai (.z zm (.y hs (zld af) (.z fA (.z zg (.nil ?_))))))))
 refine .ret (Fin.bI Tryz.results181 rfl ?_)
 exact ⟨rfl,hs⟩
set_option maxHeartbeats 1000000 in
theorem oZ{H:bn}{w:World}{σ:List Ent}{v:Value}{s:cB}(hs:St H w σ)(hr:RSy H v s):
  Cl Tryz.prog 98 [v] w fun u w'=>∃H1 vx out e,HLe H H1∧u= .tuple #[vx,I e]∧RI H1 vx out∧uw s out e∧St H1 w' σ:=by
 obtain ⟨ul,rfl,hl⟩:=hr
 obtain ⟨al,cl,rfl⟩:=RL.shape hl
 refine Cl.of Tryz.func98 rfl Tryz.ntmps98 (by simp) (aj (k:=0) rfl (bh)) ?_
 refine .ai ?_
 refine .o (.box hs rfl rfl ?_);intro b1 w hs
 refine .z zg (.z zg (.nil (.seq (.ai (.y hs (zls [_,_] aU aB) ?_)))))
 refine .o (.call Tryz.call125 rfl (jX (s:=s) hs ⟨_,rfl,hl⟩) ?_);rintro _ w ⟨rfl,hs⟩
 refine .z zg (.nil (.ai (.z zm (.z iA (.nil ?_)))))
 refine (.e9 rfl (fun hc12=>?_) (fun hc12=>?_))
 ·refine .ai (.z zm (.z zg (.z zg (.nil ?_))))
  refine .ret (rT (?_))
  exact Fin.iG [] [] hs fun w hs=>⟨_,results2 Dv rfl rfl,H,_,[],_,HLe.refl H,rfl,RS.nil H 1 none 0,.bad hc12,hs.out⟩
 ·refine .skip ?_
  refine nT ?_
  refine .seq (.ai (.y hs (zls [_,_] aU aB) ?_))
  have hok:s.Ok:=s.dn.1 (by simpa using hc12)
  have hll:=hok.len
  refine .o (.call Tryz.call133 rfl (iW (s:=s) hs hok ⟨_,rfl,hl⟩) ?_);rintro _ w ⟨H1,bb,hle1,rfl,hbb,hs⟩
  refine .nil ?_
  refine (.cond rfl (fun hc15=>?_) (fun hc15=>?_))
  ·refine .ai (.z zg (.z zg (.nil ?_)))
   refine .ret (rT (?_))
   exact Fin.iG [] [] hs fun w hs=>⟨_,results2 Dv rfl rfl,H1,_,[],_,hle1,rfl,RS.nil H1 1 none 0,.none hok (hbb.1 hc15),hs.out⟩
  ·refine .skip ?_
   refine nT ?_
   refine .ai (.y hs (zls [_,_] aU aB) ?_)
   have hns:¬s.Sound:=fun h=>by rw [hbb.2 h] at hc15;cases hc15
   refine .o (.call Tryz.call129 rfl (kW (s:=s) hs ⟨_,rfl,hl.mono hle1⟩ (by omega)) ?_);rintro v17 w ⟨L,en,hO,hLl,hRise,hs⟩
   obtain ⟨a17,l17,c17,rfl,h17⟩:=hO.shape
   refine .o (.alloc hs dz rfl ?_);intro b5 w hs
   refine .o (.store hs rfl rfl aA ?_);intro w hs
   refine .nil (.seq (.ai (.y hs (zls [_,_] aU aB) ?_)))
   refine .o (.call Tryz.call129 rfl (kW (s:=s) hs ⟨_,rfl,hl.mono hle1⟩ (by omega)) ?_);rintro v19 w ⟨L',en',hO',hLl',hRise',hs⟩
   obtain rfl:L=L':=hRise.uniq hRise'
   obtain ⟨H2,hle2,hR19,hs⟩:=cu.df hO' (by omega) hs .here
   refine .o (.call Tryz.call180 rfl (nV hs hR19) ?_);rintro _ w ⟨H3,b20,hle3,rfl,hit,hs⟩
   have hle03:=hle1.trans (hle2.trans hle3)
   refine .nil (.block ?_)
   refine .rangeFunc (gf:=231) (cap:=[.pointer (some ⟨b20,0,none⟩)]) (xs:=ur L) (σb:=[.blk b1 [I s.many,.slice al s.cz.length cl],.blk b5 [.slice a17 l17 c17],en]) (σf:=σ) (hs.sub (by repeat (first|exact Sub.refl _|constructor|apply Sub.weaken)):St H3 w (.blk b1 _:: .blk b5 _::en::σ)) trivial rfl hit Tryz.call231 (fun x hx=>by
     simp only [ur,List.mem_map] at hx
     obtain ⟨j,_,rfl⟩:=hx;rfl) rfl
    (I:=fun j H' σb=>∃(t:cB) (ut vo:Value) (out:List Int) (en:Ent),σb=[.blk b1 [I t.many,ut],.blk b5 [vo],en]∧RL H' ut t.cz∧cu 1 vo (Is out) en∧out.length≤L.length∧t.Ok∧kf s L (L.length - j) t out) (Ix:=fun _ _ _=>False)
    (fun j _ _ σ g1 ⟨t,ut,vo,out,en,g2,g3,g4⟩=>⟨t,ut,vo,out,en,g2,g3.mono g1,g4⟩) (fun _ _ _ _ _ h=>h)
    ⟨s,_,_,L,en,rfl,hl.mono hle03,hO,Nat.le_refl _,hok,.start⟩ ?_ ?_ (fun D c H' σb w _ h _=>h.elim)
   ·rintro l j hj H4 σb2 σf2 w hle4 ⟨t,ut,vo,out,en,rfl,hut,hOo,hol,htok,hC⟩ hs ⟨rr,hrr⟩
    rw [xv hj]
    have hjL:j<L.length:=by rw [kZ] at hj;exact hj
    obtain ⟨at',ct,rfl⟩:=RL.shape hut
    obtain ⟨ao,lo,co,rfl,hlo⟩:=hOo.shape
    refine .region ?_
    refine .o (.alloc hs bH rfl ?_);intro b7 w hs
    refine .o (.store hs rfl rfl ae ?_);intro w hs
    refine .nil ?_
    refine nT ?_
    refine ⟨H4,[.blk b7 [I (gi L (L.length - 1 - j))],.blk b1 [I t.many,.slice at' t.cz.length ct],.blk b5 [.slice ao lo co],en],HLe.refl _,hs,?_⟩;rintro w σf4 - hs
    refine .block (.ai (.y hs (zls [_,_] aU aB) (.y hs (zld af) ?_)))
    refine .o (.buildSlice (cells:=[_]) hs cV rfl rfl ?_);intro b25 w hs
    obtain ⟨H5,hle5,r25,hs⟩:=cu.df (xs:=[gi L (L.length - 1 - j)]) (v:= .slice (some ⟨b25,0,none⟩) 1 1) (.full (len:=1) rfl) (by simp) hs (by repeat constructor)
    refine .o (.call Tryz.call136 rfl (qa (s:=t) hs ⟨_,rfl,hut.mono hle5⟩ r25 (by have:=htok.len;omega)) ?_);rintro _ w ⟨H6,hle6,⟨u26,rfl,hL26⟩,hs⟩
    obtain ⟨a26,c26,rfl⟩:=RL.shape hL26
    refine .o (.alloc hs bY rfl ?_);intro b8 w hs
    refine .o (.aS (vs:=[_,_]) hs rfl rfl aB ?_);intro w hs
    refine .nil (.ai (.y hs (zls [_,_] aU aB) ?_))
    refine .o (.call Tryz.call133 rfl (iW (s:=t.wo [gi L (L.length - 1 - j)]) hs (htok.wo _) ⟨_,rfl,hL26⟩) ?_);rintro _ w ⟨H7,b28,hle7,rfl,hb28,hs⟩
    have hle47:=hle5.trans (hle6.trans hle7)
    refine .z iI (.nil ?_)
    refine (.cond rfl (fun hc29=>?_) (fun hc29=>?_))
    ·refine .ai (.y hs (zls [_,_] aU aB) ?_)
     refine .o (.aS (vs:=[_,_]) hs rfl rfl aB ?_);intro w hs
     refine .nil (.region (.y hs (zld ak) ?_))
     refine .q hs (dC (f:=[]) (c:=[_]) rfl rfl) ?_
     obtain ⟨H8,hle8,r7,hs⟩:=hs.cP (b:=b7) (by repeat constructor)
     replace hs:St H8 w (en:: .blk b1 [I t.many,.slice a26 (t.wo [gi L (L.length - 1 - j)]).cz.length c26]:: .blk b5 [.slice ao lo co]::σf4):=hs.sub (by repeat (first|exact Sub.refl _|constructor|apply Sub.weaken))
     refine .o (.call Tryz.call150 rfl (mI (g:=181) (cap:=[.pointer (some ⟨b7,0,none⟩)]) (fun n=>decide (n=gi L (L.length - 1 - j))) hs hOo (by omega) Tryz.call181
      (fun H' w σ n _ hle hs=>(rY hs (r7.mono hle)).mono fun u w' ⟨g1,g2⟩=>⟨H',HLe.refl _,g1,g2⟩)) ?_);rintro v33 w ⟨H9,en9,hle9,hO9,hs⟩
     obtain ⟨a33,l33,c33,rfl,h33⟩:=hO9.shape
     refine .o (.store hs rfl rfl aA ?_);intro w hs
     refine .nil ?_
     refine nB ?_
     have hfl:=List.length_filter_le (fun n=> !decide (n=gi L (L.length - 1 - j))) out
     have e:L.length - (j+1)=L.length - 1 - j:=by omega
     have hns':¬(t.wo [gi L (L.length - 1 - j)]).Sound:=fun h=>by rw [hb28.2 h] at hc29;cases hc29
     exact ⟨H9,[.blk b1 [I t.many,.slice a26 (t.wo [gi L (L.length - 1 - j)]).cz.length c26],.blk b5 [.slice a33 l33 c33],en9],hle47.trans (hle8.trans hle9),(hs.sub (by repeat (first|exact Sub.refl _|constructor|apply Sub.weaken)):St H9 w (.blk b1 _:: .blk b5 _::en9::σf4)),t.wo [gi L (L.length - 1 - j)],_,_,_,_,rfl,hL26.mono (hle7.trans (hle8.trans hle9)),hO9,by omega,htok.wo _,by
      rw [e]
      exact .drop (by rw [show L.length - 1 - j+1=L.length - j by omega];exact hC) hns'⟩
    ·refine .skip ?_
     refine nB ?_
     have e:L.length - (j+1)=L.length - 1 - j:=by omega
     have hsd':(t.wo [gi L (L.length - 1 - j)]).Sound:=hb28.1 (by simpa using hc29)
     exact ⟨H7,[.blk b1 [I t.many,.slice at' t.cz.length ct],.blk b5 [.slice ao lo co],en],hle47,(hs.sub (by repeat (first|exact Sub.refl _|constructor|apply Sub.weaken)):St H7 w (.blk b1 _:: .blk b5 _::en::σf4)),t,_,_,_,_,rfl,hut.mono hle47,hOo,hol,htok,by
      rw [e]
      exact .keep (by rw [show L.length - 1 - j+1=L.length - j by omega];exact hC) hsd'⟩
   ·rintro D H4 σb2 w hle4 ⟨t,ut,vo,out,en,rfl,hut,hOo,hol,htok,hC⟩ hs
    rw [kZ,Nat.sub_self] at hC
    obtain ⟨ao,lo,co,rfl,hlo⟩:=hOo.shape
    replace hs:St H4 w (.obj D (.deferred (some [])):: .blk b1 [I t.many,ut]:: .blk b5 [.slice ao lo co]::en::σ):=hs
    refine nB (nT ?_)
    refine .ai (.y hs (zld ak) (.z zg (.z zg (.nil ?_))))
    refine .ret ?_
    obtain ⟨H5,hle5,hR5,hs⟩:=cu.df hOo (by omega) hs (by repeat constructor)
    exact Fin.iG [D] [] hs fun w hs=>⟨_,results2 Dv rfl rfl,H5,_,out,0,hle03.trans (hle4.trans hle5),rfl,hR5,.ok hok hns hRise hC,hs.out⟩
theorem uf{H:bn}{w:World}{σ:List Ent}{v:Value}{ls:List Int}{x:Int}(hs:St H w σ)(hr:RI H v ls):
  Cl Tryz.prog 235 [v,I x] w fun u w'=>u= .bool (decide (x∈ls))∧St H w' σ:=by
 obtain ⟨a,c,rfl⟩:=RI.shape hr
 have hl:=(RI.len hr).2.2
 refine Cl.of Tryz.func235 rfl Tryz.ntmps235 (by simp) (aj (k:=0) rfl (aj (k:=1) rfl (bh))) ?_
 refine .ai (.z zg (.nil (.seq (.ai (.z zm (.z (cM aa) (.z zm (.nil ?_))))))))
 refine .for (N:=ls.length) (J:=fun k fr w=>fr=[(1,I x),(7,.slice a ls.length c)]∧St H w σ∧∀j<k,∀y,ls[j]? =some y→¬y=x) (by omega) ?_ ?_ ?_
 ·exact .mk ⟨rfl,hs,fun j hj=>by omega⟩
 ·rintro k fr w hk ⟨rfl,hs,hno⟩
  have hy:=br hk
  refine .block (.ai ?_)
  refine .ixY hs hr rfl rfl aa ae (br (l:=ls) (i:=k) (by omega)) (by first|rfl|assumption|omega) ?_;intro b11 o11 hc11
  refine .q hs (aM rfl af hc11) ?_
  refine .z zg (.nil (.ai (.z zm (.z zm (.z fA (.nil ?_))))))
  refine (.bJ rfl (fun hc15=>?_) (fun hc15=>?_))
  ·refine .ai (.z zg (.nil ?_))
   refine .ret (rB (rT (rB (rT (Fin.bI Tryz.results235 rfl ?_)))))
   exact ⟨by rw [decide_eq_true (hc15▸List.mem_of_getElem? hy)],hs⟩
  ·refine .skip ?_
   refine nB (nT ?_)
   exact .mk ⟨rfl,hs,eK hno hy hc15⟩
 ·rintro fr w ⟨rfl,hs,hno⟩
  refine nT ?_
  refine .ai (.z zg (.nil ?_))
  refine .ret (Fin.bI Tryz.results235 rfl ?_)
  exact ⟨by rw [decide_eq_false (fun h=>by
   obtain ⟨j,hj⟩:=List.getElem?_of_mem h
   exact (hno j (List.getElem?_eq_some_iff.1 hj).1 x hj rfl).elim)],hs⟩
set_option maxHeartbeats 1000000 in
theorem kM{H:bn}{w:World}{σ:List Ent}{v vb:Value}{s:cB}{bs:List Int}(hs:St H w σ)(hr:RSy H v s)(hb:RI H vb bs)(hlen:s.cz.length≤4398046510976):
  Cl Tryz.prog 185 [v,vb] w fun u w'=>∃H1,HLe H H1∧RSy H1 u (s.wo bs)∧St H1 w' σ:=by
 obtain ⟨ul,rfl,hl⟩:=hr
 obtain ⟨al,cl,rfl⟩:=RL.shape hl
 obtain ⟨ab,cb,rfl⟩:=RI.shape hb
 refine Cl.of Tryz.func185 rfl Tryz.ntmps185 (by simp) (aj (k:=0) rfl (aj (k:=1) rfl (bh))) ?_
 refine .ai ?_
 refine .o (.box hs rfl rfl ?_);intro b2 w hs
 refine .o (.alloc hs bY rfl ?_);intro b4 w hs
 refine .nil (.ai (.z (zfa bE) (.y hs (zld af) (.z (zbd [_,_] gg) ?_))))
 refine .o (.alloc hs bY rfl ?_);intro b5 w hs
 refine .o (.aS (vs:=[_,_]) hs rfl rfl aB ?_);intro w hs
 refine .nil (.seq (.ai (.z (zfa bD) (.y hs (zld cD) (.z (cM aQ) (.z zm (.nil ?_)))))))
 refine .for (N:=s.cz.length) (J:=fun k fr w=>fr=[(12,.slice al s.cz.length cl),(1,.slice ab bs.length cb),(5,.pointer (some ⟨b5,0,none⟩)),(4,.pointer (some ⟨b4,0,none⟩))]∧∃vL en,cu 4 vL (fQ (gU (fun _ l=> !decide (l.S∈bs)) s.cz k)) en∧St H w (.blk b5 [I s.many,vL]:: .blk b4 [I 0,.slice none 0 0]::en::σ)) (by omega) ?_ ?_ ?_
 ·exact .mk ⟨rfl,_,_,.nil 4 none,hs.nul.sub (by repeat (first|exact Sub.refl _|constructor|apply Sub.weaken))⟩
 ·rintro k fr w hk ⟨rfl,vL,en,hO,hs⟩
  obtain ⟨x,hx⟩:=nth (l:=s.cz) hk
  obtain ⟨aL,lL,cL,rfl,hL⟩:=hO.shape
  have hpl:=ka (fun _ l=> !decide (l.S∈bs)) s.cz k
  refine .block (.ai ?_)
  refine .ixX (enc:=Lim.c) hs hl rfl rfl aQ bj hx (by first|rfl|assumption|omega) ?_;intro b16 o16 hc16
  refine .q hs (cj (vs:=(Lim.c x)) rfl dY bj hc16) ?_
  refine .o (.alloc hs dB rfl ?_);intro b7 w hs
  refine .o (.aS (vs:=x.c) hs rfl rfl bj ?_);intro w hs
  refine .nil (.ai (.z zm (.z (zfa gd) (.y hs (zld af) ?_))))
  refine .o (.call Tryz.call235 rfl (uf hs hb) ?_);rintro _ w ⟨rfl,hs⟩
  refine .z iI (.nil ?_)
  refine (.cond rfl (fun hc22=>?_) (fun hc22=>?_))
  ·refine .region (.z (zfa bD) (.y hs (zld cD) (.y hs (zls [_,_,_,_] dY bj) ?_)))
   refine .o (.buildSlice (cells:=x.c) hs kX rfl rfl ?_);intro b26 w hs
   refine .o (.append (ys:=x.c) hs bQ rfl rfl hO (.own .here rfl rfl) (by simp [Lim.c,Value.oneCell']) (fun l h=>by rw [dp] at h;omega) ?_);intro v27 en27 w hO2 hs
   obtain ⟨a27,l27,c27,rfl,h27⟩:=hO2.shape
   refine .z (zfa bD) ?_
   refine .o (.store hs rfl rfl gR ?_);intro w hs
   refine .nil ?_
   refine nB (nT ?_)
   have e:gU (fun _ l=> !decide (l.S∈bs)) s.cz (k+1)=gU (fun _ l=> !decide (l.S∈bs)) s.cz k++[x]:=by rw [kr hx,if_pos hc22]
   rw [←zw,←fw,←e] at hO2
   exact .mk ⟨rfl,_,_,hO2,hs.sub (by repeat (first|exact Sub.refl _|constructor|apply Sub.weaken))⟩
  ·refine .skip ?_
   refine nB (nT ?_)
   have e:gU (fun _ l=> !decide (l.S∈bs)) s.cz (k+1)=gU (fun _ l=> !decide (l.S∈bs)) s.cz k:=by rw [kr hx,hc22];simp
   exact .mk ⟨rfl,_,_,by rw [e];exact hO,hs.sub (by repeat (first|exact Sub.refl _|constructor|apply Sub.weaken))⟩
 ·rintro fr w ⟨rfl,vL,en,hO,hs⟩
  obtain ⟨aL,lL,cL,rfl,hL⟩:=hO.shape
  rw [uH] at hO
  have hpl:(s.wo bs).cz.length≤s.cz.length:=List.length_filter_le _ _
  refine nT ?_
  refine .ai (.y hs (zls [_,_] aU aB) ?_)
  refine .o (.aS (vs:=[_,_]) hs rfl rfl aB ?_);intro w hs
  refine .nil ?_
  refine .ret ?_
  obtain ⟨H1,g1,r1,hs⟩:=cu.cP (m:=4) (cs:=(s.wo bs).cz.map Lim.c) hO (fun c hc=>by simp only [List.mem_map] at hc;obtain ⟨x,_,rfl⟩:=hc;rfl) (by omega) (by rw [List.length_map];omega) hs (by repeat constructor)
  exact Fin.iG [] [] hs fun w hs=>⟨_,results1 Tryz.results185 (dH (vs:=[_,_]) hs rfl aU aB),H1,g1,⟨_,rfl,r1⟩,hs.out⟩
set_option maxHeartbeats 1000000 in
theorem ue{H:bn}{w:World}{σ:List Ent}{v:Value}{ls:List Int}{n:Int}{S:Int→Prop}(hs:St H w σ)(hr:RI H v ls)(hR:gH S ls)(hlen:ls.length≤17592186044000):
  Cl Tryz.prog 234 [v,I n] w fun u w'=>∃H1 L,HLe H H1∧RI H1 u L∧gH (fun x=>S x∨x=n) L∧L.length≤ls.length+1∧St H1 w' σ:=by
 obtain ⟨a,c,rfl⟩:=RI.shape hr
 have hcap:=RI.len hr
 refine Cl.of Tryz.func234 rfl Tryz.ntmps234 (by simp) (aj (k:=0) rfl (aj (k:=1) rfl (bh))) ?_
 refine .ai (.z zg (.nil (.ai (.z zm (.z (cM aa) (.z zg (.nil ?_)))))))
 refine .cut (fun fs w=>∃t:Nat,kJ fs ⟨49,[],[(5,I (t:Int)),(1,I n),(0,.slice a ls.length c)]⟩∧t≤ls.length∧(∀j,t≤j→j<ls.length→n≤gi ls j)∧(∀j<t,j<ls.length→gi ls j<n)∧St H w σ) ?_ ?_
 ·refine .block ?_
  refine .loop (fun t:Nat=>⟨49,[],[(5,I (t:Int)),(1,I n),(0,.slice a ls.length c)]⟩)
   (fun t w=>t≤ls.length∧(∀j,t≤j→j<ls.length→n≤gi ls j)∧St H w σ) (fun t=>t) ls.length (by repeat (first|exact .nil rfl rfl|refine .cons rfl ?_)) ⟨Nat.le_refl _,fun j _ _=>by omega,hs⟩ ?_
  clear hs
  rintro t w ⟨ht,hge,hs⟩
  refine .seq (.ai (.z zm (.z lk (.z zm ?_))))
  refine .iE (t':=11) rfl (fun hb11=>?_) (fun hb11=>?_)
  ·refine .gT rfl rfl ?_
   refine .z zm ?_
   refine .gT rfl rfl ?_
   refine .z zm ?_
   refine .gT rfl rfl ?_
   refine .z gM ?_
   refine .gT rfl rfl ?_
   refine .ixY hs hr rfl rfl aa ae (br (l:=ls) (i:=(t - 1)) (by omega)) (by first|rfl|assumption|omega) ?_;intro b15 o15 hc15
   refine .gT rfl rfl ?_
   refine .q hs (aM rfl af hc15) ?_
   refine .gT rfl rfl ?_
   refine .z zm ?_
   refine .gT rfl rfl ?_
   refine .z wI (.z zpT (.nil ?_))
   refine (.bJ rfl (fun hc19=>?_) (fun hc19=>?_))
   ·refine .skip ?_
    refine nT ?_
    refine .block (.region (.z zm (.z gM (.z zg (.nil ?_)))))
    refine nB (nT ?_)
    exact ⟨t - 1,.cq rfl (by omega) (by repeat (first|exact .nil rfl rfl|refine .cons rfl ?_)),⟨by omega,fun j h1 h2=>by
     by_cases e:j=t - 1
     ·subst e;omega
     ·exact hge j (by omega) h2,hs⟩,by omega⟩
   ·refine .exit ?_
    refine xT (xT (xB (nT ?_)))
    exact ⟨t,by repeat (first|exact .nil rfl rfl|refine .cons rfl ?_),ht,hge,fun j h1 h2=>by
     by_cases e:j=t - 1
     ·subst e;omega
     ·have:=vq hR (i:=j) (j:=t - 1) (by omega) (by omega);omega,hs⟩
  ·refine .gFs 7 2 true rfl rfl rfl ?_
   refine .z zpF (.nil ?_)
   refine (.mj rfl (by first|rfl|exact decide_eq_false (by assumption)) ?_)
   refine .exit ?_
   refine xT (xT (xB (nT ?_)))
   exact ⟨t,by repeat (first|exact .nil rfl rfl|refine .cons rfl ?_),ht,hge,fun j h1 h2=>by omega,hs⟩
 ·rintro fs w ⟨t,hfs,ht,hge,hlt,hs⟩
  refine WE.sub ?_ hfs
  refine .seq (.ai (.z zm (.z zm (.z (cM aa) (.z fN (.z zm ?_))))))
  refine .iE (t':=26) rfl (fun hb26=>?_) (fun hb26=>?_)
  ·refine .gT rfl rfl ?_
   refine .z zm ?_
   refine .gT rfl rfl ?_
   refine .z zm ?_
   refine .gT rfl rfl ?_
   refine .ixY hs hr rfl rfl aa ae (br (l:=ls) (i:=t) (by omega)) (by first|rfl|assumption|omega) ?_;intro b29 o29 hc29
   refine .gT rfl rfl ?_
   refine .q hs (aM rfl af hc29) ?_
   refine .gT rfl rfl ?_
   refine .z zm ?_
   refine .gT rfl rfl ?_
   refine .z fA (.z zpT (.nil ?_))
   refine (.bJ rfl (fun hc33=>?_) (fun hc33=>?_))
   ·refine .ai (.z zm (.z zg (.nil ?_)))
    refine .ret (rT (Fin.bI BM rfl ?_))
    exact ⟨H,ls,HLe.refl H,hr,hR.congr fun x=>⟨.inl,fun h=>h.elim id fun e=>by
     subst e
     rw [←hc33]
     exact (hR.mem _).1 (List.mem_of_getElem? (br (by omega)))⟩,by omega,hs⟩
   ·refine .skip ?_
    refine nT ?_
    refine .ai ?_
    refine .o (.buildSlice (cells:=[]) hs iD rfl rfl ?_);intro b35 w hs
    refine .z zm (.z zm ?_)
    refine .q hs (jB (k:=t) rfl rfl aa ae rfl (by omega)) ?_
    refine .o (.append (xs:=[]) (ys:=Is (ls.take t)) hs bP rfl rfl (.full (len:=0) rfl) (.ints (RI.head hr (k:=t) ht)) (fL _) (fun l h=>by simp at h;rw [List.length_take];omega) ?_);intro v39 en39 w hO1 hs
    rw [List.nil_append] at hO1
    obtain ⟨a39,l39,c39,rfl,h39⟩:=hO1.shape
    refine .z zg (.nil (.ai (.z zm (.z zm ?_))))
    refine .o (.buildSlice (cells:=[_]) hs cV rfl rfl ?_);intro b42 w hs
    refine .o (.append (ys:=Is [n]) hs bP rfl rfl hO1 (.own .here rfl rfl) (fL _) (fun l h=>by simp at h;omega) ?_);intro v43 en43 w hO2 hs
    rw [←List.map_append] at hO2
    obtain ⟨a43,l43,c43,rfl,h43⟩:=hO2.shape
    refine .z zg (.nil (.ai (.z zm (.z zm (.z zm ?_)))))
    refine .q hs (nh (k:=t) rfl rfl aa ae (by omega) (by omega)) ?_
    refine .o (.append (ys:=Is (ls.drop t)) hs bP rfl rfl hO2 (.ints (RI.tail hr (k:=t) ht)) (fL _) (fun l h=>by simp at h;rw [List.length_drop];omega) ?_);intro v48 en48 w hO3 hs
    rw [←List.map_append,List.append_assoc,List.singleton_append] at hO3
    have hfin:¬(t<ls.length∧gi ls t=n):=fun h=>by first|omega|(exact hc33 h.2)
    have hR3:=hR.put (k:=t) (z:=n) (yG hlt) (zi fun j h1 h2=>by
     have h3:=hge j h1 h2
     by_cases e:j=t
     ·subst e;omega
     ·have:=vq hR (i:=t) (j:=j) (by omega) h2
      have:=hge t (Nat.le_refl _) (by omega)
      omega)
    obtain ⟨H1,g1,r1,hs⟩:=cu.df hO3 (by simp;omega) hs .here
    refine .z zg (.nil ?_)
    refine .ret (Fin.bI BM rfl ?_)
    exact ⟨H1,_,g1,r1,hR3,by simp;omega,hs.out⟩
  ·refine .gFs 6 4 true rfl rfl rfl ?_
   refine .z zpF (.nil ?_)
   refine (.mj rfl (by first|rfl|exact decide_eq_false (by assumption)) ?_)
   refine .skip ?_
   refine nT ?_
   refine .ai ?_
   refine .o (.buildSlice (cells:=[]) hs iD rfl rfl ?_);intro b35 w hs
   refine .z zm (.z zm ?_)
   refine .q hs (jB (k:=t) rfl rfl aa ae rfl (by omega)) ?_
   refine .o (.append (xs:=[]) (ys:=Is (ls.take t)) hs bP rfl rfl (.full (len:=0) rfl) (.ints (RI.head hr (k:=t) ht)) (fL _) (fun l h=>by simp at h;rw [List.length_take];omega) ?_);intro v39 en39 w hO1 hs
   rw [List.nil_append] at hO1
   obtain ⟨a39,l39,c39,rfl,h39⟩:=hO1.shape
   refine .z zg (.nil (.ai (.z zm (.z zm ?_))))
   refine .o (.buildSlice (cells:=[_]) hs cV rfl rfl ?_);intro b42 w hs
   refine .o (.append (ys:=Is [n]) hs bP rfl rfl hO1 (.own .here rfl rfl) (fL _) (fun l h=>by simp at h;omega) ?_);intro v43 en43 w hO2 hs
   rw [←List.map_append] at hO2
   obtain ⟨a43,l43,c43,rfl,h43⟩:=hO2.shape
   refine .z zg (.nil (.ai (.z zm (.z zm (.z zm ?_)))))
   refine .q hs (nh (k:=t) rfl rfl aa ae (by omega) (by omega)) ?_
   refine .o (.append (ys:=Is (ls.drop t)) hs bP rfl rfl hO2 (.ints (RI.tail hr (k:=t) ht)) (fL _) (fun l h=>by simp at h;rw [List.length_drop];omega) ?_);intro v48 en48 w hO3 hs
   rw [←List.map_append,List.append_assoc,List.singleton_append] at hO3
   have hfin:¬(t<ls.length∧gi ls t=n):=fun h=>by first|omega|(exact hc33 h.2)
   have hR3:=hR.put (k:=t) (z:=n) (yG hlt) (zi fun j h1 h2=>by
    have h3:=hge j h1 h2
    by_cases e:j=t
    ·subst e;omega
    ·have:=vq hR (i:=t) (j:=j) (by omega) h2
     have:=hge t (Nat.le_refl _) (by omega)
     omega)
   obtain ⟨H1,g1,r1,hs⟩:=cu.df hO3 (by simp;omega) hs .here
   refine .z zg (.nil ?_)
   refine .ret (Fin.bI BM rfl ?_)
   exact ⟨H1,_,g1,r1,hR3,by simp;omega,hs.out⟩
theorem pD{H:bn}{w:World}{σ:List Ent}{v:Value}{s:cB}(hs:St H w σ)(hr:RSy H v s)(hlen:s.cz.length≤4398046510976):
  Cl Tryz.prog 184 [v] w fun u w'=>∃H1 L,HLe H H1∧RI H1 u L∧L.length≤s.cz.length∧gH (Bx s.cz) L∧St H1 w' σ:=by
 obtain ⟨ul,rfl,hl⟩:=hr
 obtain ⟨al,cl,rfl⟩:=RL.shape hl
 refine Cl.of Tryz.func184 rfl Tryz.ntmps184 (by simp) (aj (k:=0) rfl (bh)) ?_
 refine .ai ?_
 refine .o (.box hs rfl rfl ?_);intro b1 w hs
 refine .z zg (.nil (.ai (.z zg (.nil (.seq (.ai (.z (zfa bD) (.y hs (zld cD) (.z (cM aQ) ?_)))))))))
 refine .z zm (.nil ?_)
 refine .for (N:=s.cz.length) (J:=fun k fr w=>∃v3 H1 L,fr=[(3,v3),(7,.slice al s.cz.length cl)]∧HLe H H1∧RI H1 v3 L∧L.length≤k∧gH (Bx (s.cz.take k)) L∧St H1 w σ) (by omega) ?_ ?_ ?_
 ·exact .mk ⟨_,H,[],rfl,HLe.refl H,RS.nil H 1 none 0,by simp,.nil (by simp [Bx]),hs.out⟩
 ·rintro k fr w hk ⟨v3,H1,L,rfl,hle1,hRL,hLk,hRise,hs⟩
  obtain ⟨x,hx⟩:=nth (l:=s.cz) hk
  obtain ⟨a3,c3,rfl⟩:=RI.shape hRL
  refine .block (.ai ?_)
  refine .ixX (enc:=Lim.c) hs (hl.mono hle1) rfl rfl aQ bj hx (by first|rfl|assumption|omega) ?_;intro b11 o11 hc11
  refine .q hs (cj (vs:=(Lim.c x)) rfl dY bj hc11) ?_
  refine .o (.alloc hs dB rfl ?_);intro b5 w hs
  refine .o (.aS (vs:=x.c) hs rfl rfl bj ?_);intro w hs
  refine .nil (.region (.z zm (.z (zfa gd) (.y hs (zld af) ?_))))
  refine .o (.call Tryz.call234 rfl (ue hs hRL hRise (by omega)) ?_);rintro v16 w ⟨H2,L2,hle2,hRL2,hRise2,hL2,hs⟩
  refine .z zg (.nil ?_)
  refine nB (nT ?_)
  exact .mk ⟨_,H2,L2,rfl,hle1.trans hle2,hRL2,by omega,hRise2.congr fun y=>by
   rw [dK hx]
   simp only [Bx,List.mem_append,List.mem_singleton]
   constructor
   ·rintro (⟨l,h1,h2⟩|h)
    ·exact ⟨l,.inl h1,h2⟩
    ·exact ⟨x,.inr rfl,h.symm⟩
   ·rintro ⟨l,h1|h1,h2⟩
    ·exact .inl ⟨l,h1,h2⟩
    ·subst h1;exact .inr h2.symm,hs.out⟩
 ·rintro fr w ⟨v3,H1,L,rfl,hle1,hRL,hLk,hRise,hs⟩
  rw [List.take_length] at hRise
  refine nT ?_
  refine .ai (.z zm (.z zg (.nil ?_)))
  refine .ret (Fin.bI Tryz.results184 rfl ?_)
  exact ⟨H1,L,hle1,hRL,hLk,hRise,hs⟩
theorem mH{H:bn}{w:World}{σ:List Ent}{v:Value}{xs:List Int}{g:Nat}{cap:List Value}(q:Int→Prop)(hs:St H w σ)(hR:RI H v xs)(hc:∀args w,(callFunc g args).run Tryz.prog w= .ok (.enter g args) w)
  (hp:∀H' w σ (n:Int),n∈xs→HLe H H'→St H' w σ→Cl Tryz.prog g ([I n]++cap) w fun u w'=>∃H1 b,HLe H' H1∧u= .bool b∧(b=true↔q n)∧St H1 w' σ):
  Cl Tryz.prog 206 [v,.func (.func g) #[] cap.toArray] w fun u w'=>∃H1 i,HLe H H1∧u=I i∧(0≤i↔∃x∈xs,q x)∧St H1 w' σ:=by
 obtain ⟨a,c,rfl⟩:=RI.shape hR
 have hl:=(RI.len hR).2.2
 refine Cl.of Tryz.func206 rfl Tryz.ntmps206 (by simp) (aj (k:=0) rfl (aj (k:=1) rfl (bh))) ?_
 refine .ai (.z zg (.nil (.seq (.ai (.z zm (.z (cM aa) (.z zm (.nil ?_))))))))
 refine .for (N:=xs.length) (J:=fun k fr w=>fr=[(1,.func (.func g) #[] cap.toArray),(0,.slice a xs.length c)]∧∃H1,HLe H H1∧(∀j<k,∀y,xs[j]? =some y→¬q y)∧St H1 w σ) (by omega) ?_ ?_ ?_
 ·exact .mk ⟨rfl,H,HLe.refl H,fun j hj=>by omega,hs⟩
 ·rintro k fr w hk ⟨rfl,H1,hle1,hno,hs⟩
  obtain ⟨x,hx⟩:=nth hk
  refine .block (.ai (.z zm (.z zg (.nil (.ai (.z zm (.z zm (.z zm ?_))))))))
  refine .ixY hs (hR.mono hle1) rfl rfl aa ae hx rfl ?_;intro b14 o14 hc14
  refine .q hs (aM rfl af hc14) ?_
  refine .o (.p5 (first:=[]) (cap:=cap) rfl rfl hc (hp _ _ _ x (List.mem_of_getElem? hx) hle1 hs) ?_);rintro _ w ⟨H2,b16,hle2,rfl,hb16,hs⟩
  refine .nil ?_
  refine (.cond rfl (fun hc16=>?_) (fun hc16=>?_))
  ·refine .ai (.z zm (.z zg (.nil ?_)))
   refine .ret (rB (rT (rB (rT (Fin.bI tM rfl ?_)))))
   exact ⟨H2,_,hle1.trans hle2,rfl,⟨fun _=>⟨x,List.mem_of_getElem? hx,hb16.1 hc16⟩,fun _=>by omega⟩,hs⟩
  ·refine .skip ?_
   refine nB (nT ?_)
   exact .mk ⟨rfl,H2,hle1.trans hle2,eK hno hx (fun h=>by rw [hb16.2 h] at hc16;cases hc16),hs⟩
 ·rintro fr w ⟨rfl,H1,hle1,hno,hs⟩
  refine nT ?_
  refine .ai (.z zg (.nil ?_))
  refine .ret (Fin.bI tM rfl ?_)
  exact ⟨H1,_,hle1,rfl,⟨fun h=>by omega,fun ⟨x,h1,h2⟩=>by
   obtain ⟨j,hj⟩:=List.getElem?_of_mem h1
   exact (hno j (List.getElem?_eq_some_iff.1 hj).1 x hj h2).elim⟩,hs⟩
theorem la{H:bn}{w:World}{σ:List Ent}{v:Value}{xs:List Int}{g:Nat}{cap:List Value}(q:Int→Prop)(hs:St H w σ)(hR:RI H v xs)(hc:∀args w,(callFunc g args).run Tryz.prog w= .ok (.enter g args) w)
  (hp:∀H' w σ (n:Int),n∈xs→HLe H H'→St H' w σ→Cl Tryz.prog g ([I n]++cap) w fun u w'=>∃H1 b,HLe H' H1∧u= .bool b∧(b=true↔q n)∧St H1 w' σ):
  Cl Tryz.prog 134 [v,.func (.func g) #[] cap.toArray] w fun u w'=>∃H1 b,HLe H H1∧u= .bool b∧(b=true↔∃x∈xs,q x)∧St H1 w' σ:=by
 refine Cl.of Tryz.func134 rfl Tryz.ntmps134 (by simp) (aj (k:=0) rfl (aj (k:=1) rfl (bh))) ?_
 refine .ai (.z zg (.nil (.ai (.z zm (.z zm ?_)))))
 refine .o (.call Tryz.call206 rfl (mH q hs hR hc hp) ?_);rintro _ w ⟨H1,i,hle1,rfl,hi,hs⟩
 refine .z wI (.z zg (.nil ?_))
 refine .ret (Fin.bI Tryz.results134 rfl ?_)
 exact ⟨H1,_,hle1,rfl,by simp only [decide_eq_true_eq];exact hi,hs⟩
theorem RI.one{H:bn}{a:Option Addr}{len cap k:Nat}{xs:List Int}(h:RI H (.slice a len cap) xs)(hk:k<len):RI H (.slice (if cap=k then a else a.map (·.add (k*1))) (k+1 - k) (cap - k)) [gi xs k]:=by
 have hl:=(RI.len h).1
 have h1:=RS.part h (lo:=k) (hi:=k+1) (by omega) (by omega)
 have e:(((xs.map fun x=>[I x]).take (k+1)).drop k)=[gi xs k].map fun x=>[I x]:=by
  rw [←List.map_take,←List.map_drop]
  congr 1
  have hx:=br (l:=xs) (i:=k) (by omega)
  rw [dK hx]
  exact List.drop_left' (by rw [List.length_take];omega)
 rw [e] at h1
 exact h1
theorem nb{H:bn}{w:World}{σ:List Ent}{v:Value}{s:cB}(hs:St H w σ)(hr:RSy H v s)(hok:s.Ok):
  Cl Tryz.prog 183 [v] w fun u w'=>∃H1 b,HLe H H1∧u= .bool b∧(b=true↔¬s.Sound)∧St H1 w' σ:=by
 obtain ⟨ul,rfl,hl⟩:=hr
 obtain ⟨al,cl,rfl⟩:=RL.shape hl
 have hm1:=hok.m1
 refine Cl.of Tryz.func183 rfl Tryz.ntmps183 (by simp) (aj (k:=0) rfl (bh)) ?_
 refine .ai ?_
 refine .o (.box hs rfl rfl ?_);intro b1 w hs
 refine .z zg (.nil (.ai (.y hs (zls [_,_] aU aB) ?_)))
 refine .o (.call Tryz.call226 rfl (kn (s:=s) hs ⟨_,rfl,hl⟩ hok) ?_);rintro v4 w ⟨H1,rs,hle1,hRT,hSq,hWT,hs⟩
 refine .o (.call Tryz.call233 rfl (jQ hs hRT hSq (by simp only [cB.n];omega)) ?_);rintro _ w ⟨b,rfl,hb,hs⟩
 have hbs:=hb.trans (qv hok hWT).symm
 refine .z iI (.z zg (.nil ?_))
 refine .ret (Fin.bI Tryz.results183 rfl ?_)
 exact ⟨H1,_,hle1,rfl,by rw [←hbs];cases b<;>simp,hs.out⟩
theorem filter_one{out:List Int}{i:Nat}(h:out.Pairwise (·<·))(hi:i<out.length):(out.filter fun x=> !decide (x=gi out i))=out.take i++out.drop (i+1):=by
 have h1:out=out.take i++gi out i::out.drop (i+1):=by
  conv=>lhs;rw [←List.take_append_drop i out]
  congr 1
  rw [List.drop_eq_getElem_cons hi]
  congr 1
  have:=br hi
  rw [List.getElem?_eq_getElem hi] at this
  exact Option.some.inj this
 generalize gi out i=x at h1 ⊢
 generalize out.take i=A at h1 ⊢
 generalize out.drop (i+1)=B at h1 ⊢
 subst h1
 obtain ⟨_,h3,h4⟩:=List.pairwise_append.1 h
 obtain ⟨h5,_⟩:=List.pairwise_cons.1 h3
 rw [List.filter_append,List.filter_cons,if_neg (by simp),List.filter_eq_self.2 fun y hy=>by have:=h4 y hy x (.head _);simp;omega,List.filter_eq_self.2 fun y hy=>by have:=h5 y hy;simp;omega]
set_option maxHeartbeats 4000000 in
theorem oL{H:bn}{w:World}{σ:List Ent}{v:Value}{s:cB}(hs:St H w σ)(hr:RSy H v s):
  Cl Tryz.prog 99 [v] w fun u w'=>∃H1 vx out e,HLe H H1∧u= .tuple #[vx,I e]∧RI H1 vx out∧uw s out e∧St H1 w' σ:=by
 obtain ⟨ul,rfl,hl⟩:=hr
 obtain ⟨al,cl,rfl⟩:=RL.shape hl
 refine Cl.of Tryz.func99 rfl Tryz.ntmps99 (by simp) (aj (k:=0) rfl (bh)) ?_
 refine .ai ?_
 refine .o (.box hs rfl rfl ?_);intro b1 w hs
 refine .z zg (.z zg (.nil (.ai (.y hs (zls [_,_] aU aB) ?_))))
 refine .o (.call Tryz.call182 rfl (jR (s:=s) hs ⟨_,rfl,hl⟩) ?_);rintro _ w ⟨rfl,hs⟩
 refine .z zg (.nil (.seq (.ai (.z zm (.z iA (.nil ?_))))))
 refine (.e9 rfl (fun hc11=>?_) (fun hc11=>?_))
 ·refine .ai (.z zm (.z zg (.z zg (.nil ?_))))
  refine .ret (rT (Fin.lg Du rfl rfl ?_))
  exact ⟨H,_,[],_,HLe.refl H,rfl,RS.nil H 1 none 0,.bad hc11,hs.out⟩
 ·refine .skip ?_
  refine nT ?_
  refine .seq (.ai (.y hs (zls [_,_] aU aB) ?_))
  have hok:s.Ok:=s.dn.1 (by simpa using hc11)
  have hll:=hok.len
  refine .o (.call Tryz.call183 rfl (nb (s:=s) hs ⟨_,rfl,hl⟩ hok) ?_);rintro _ w ⟨H1,b14,hle1,rfl,hb14,hs⟩
  refine .z iI (.nil ?_)
  refine (.cond rfl (fun hc15=>?_) (fun hc15=>?_))
  ·refine .ai (.z zg (.z zg (.nil ?_)))
   refine .ret (rT (Fin.lg Du rfl rfl ?_))
   exact ⟨H1,_,[],_,hle1,rfl,RS.nil H1 1 none 0,.none hok (Classical.byContradiction fun h=>by simp [hb14.2 h] at hc15),hs.out⟩
  ·refine .skip ?_
   refine nT ?_
   refine .ai (.y hs (zls [_,_] aU aB) ?_)
   have hns:¬s.Sound:=hb14.1 (by simpa using hc15)
   refine .o (.call Tryz.call184 rfl (pD (s:=s) hs ⟨_,rfl,hl.mono hle1⟩ (by omega)) ?_);rintro v17 w ⟨H2,L,hle2,rL,hLl,hRise,hs⟩
   obtain ⟨aL,cL,rfl⟩:=RI.shape rL
   have hle12:=hle1.trans hle2
   refine .z zg (.nil (.seq (.ai (.z zm (.z (cM aa) (.z gM (.z zg (.nil (.block ?_)))))))))
   refine .loop (fun p:Nat×Value=>⟨46,[],[(6,I ((L.length:Int) - 1 - (p.1:Int))),(5,p.2),(1,.pointer (some ⟨b1,0,none⟩))]⟩)
    (fun p w=>p.1≤L.length∧∃(t:cB) (out:List Int) (ut:Value) (H3:bn),HLe H2 H3∧RL H3 ut t.cz∧RI H3 p.2 out∧t.Ok∧kf s L (L.length - p.1) t out∧out.take (L.length - p.1)=L.take (L.length - p.1)∧out.length≤L.length∧St H3 w (.blk b1 [I t.many,ut]::σ))
    (fun p=>L.length - p.1) (0,.slice aL L.length cL) (.cq rfl (by dsimp only;omega) (by repeat (first|exact .nil rfl rfl|refine .cons rfl ?_)))
    ⟨Nat.zero_le _,s,L,_,H2,HLe.refl _,hl.mono hle12,rL,hok,.start,rfl,Nat.le_refl _,hs⟩ ?_
   clear hs
   rintro ⟨j,v5⟩ w ⟨hj,t,out,ut,H3,hle3,hLt,rO,htok,hC,htk,hol,hs⟩
   dsimp only at hj hC htk rO ⊢
   obtain ⟨aO,cO,rfl⟩:=RI.shape rO
   obtain ⟨at',ct,rfl⟩:=RL.shape hLt
   obtain ⟨i,hi⟩:∃i,i=L.length - 1 - j:=⟨_,rfl⟩
   have hfac:j<L.length→L.length=i+1+j∧kf s L (i+1) t out∧out.take i=L.take i∧ConfV s L (i+1) t out∧i<out.length∧gi out i=gi L i∧RI H3 (.slice (if cO=i then aO else aO.map (·.add (i*1))) (i+1 - i) (cO - i)) [gi L i]∧out.length≤cO∧t.cz.length≤400:=fun hjL=>by
    have hij:L.length - j=i+1:=by omega
    rw [hij] at hC htk
    have hio:i<out.length:=by
     have:=congrArg List.length htk
     rw [List.length_take,List.length_take] at this
     omega
    have hgi:gi out i=gi L i:=by
     have h1:gi (out.take (i+1)) i=gi (L.take (i+1)) i:=by rw [htk]
     simp only [gi,List.getD,List.getElem?_take] at h1
     rw [if_pos (by omega),if_pos (by omega)] at h1
     exact h1
    have hone:=RI.one rO hio
    rw [hgi] at hone
    refine ⟨by omega,hC,?_,hC.inv hns hRise,hio,hgi,hone,(RI.len rO).2.1,htok.len⟩
    have h1:=congrArg (List.take i) htk
    rw [List.take_take,List.take_take,show min i (i+1)=i by omega] at h1
    exact h1
   refine .seq (.ai (.z zm (.z wI (.nil ?_))))
   refine (.bJ rfl (fun hc22=>?_) (fun hc22=>?_))
   ·refine .skip ?_
    refine nT ?_
    refine .seq (.block ?_)
    refine .cut (fun fs w=>∃b7 u7 Hm,kJ fs ⟨46,[],[(7,.pointer (some ⟨b7,0,none⟩)),(6,I ((L.length:Int) - 1 - (j:Int))),(5,.slice aO out.length cO),(1,.pointer (some ⟨b1,0,none⟩))]⟩∧HLe H3 Hm∧RL Hm u7 (t.wo [gi L i]).cz∧St Hm w (.blk b7 [I t.many,u7]:: .blk b1 [I t.many,.slice at' t.cz.length ct]::σ)) ?_ ?_
    ·refine .draw mix rfl hs ?_;intro w hs
     obtain ⟨hij,hC,htk0,hV,hio,hgi,hone,hcap,htl⟩:=hfac (by omega)
     refine .ys 0 rfl hs [_,_] aU aB ?_;refine .z 1 rfl zm ?_;refine .z 2 rfl zm ?_;refine .z 3 rfl zm ?_;refine .z 4 rfl cA ?_
     refine .p (i:=5) rfl (by kernel_rfl) .none (Co (j:=i) (k:=i+1) rfl rfl rfl aa ae (by omega) (by omega) (by omega) (by omega)) ?_
     refine .e2 (i:=6) (j:=7) (by kernel_rfl) rfl rfl rfl rfl .none .none hs ?_ ?_
     ·refine .call Tryz.call185 rfl (kM (s:=t) hs ⟨_,rfl,hLt⟩ hone (by omega)) ?_;rintro _ w ⟨H4,hle4,⟨u31,rfl,hL31⟩,hs⟩
      obtain ⟨a31,c31,rfl⟩:=RL.shape hL31
      refine .go ?_
      refine .e1 (i:=7) (by kernel_rfl) rfl rfl .none hs ?_
      refine .alloc hs bY rfl ?_;intro b7 w hs
      refine .go ?_
      refine .e1 (i:=8) (by kernel_rfl) rfl rfl .none hs ?_
      refine .aS (vs:=[_,_]) hs rfl rfl aB ?_;intro w hs
      refine .go ?_
      refine .done (by kernel_rfl) hs ?_
      exact nT ⟨b7,_,H4,by repeat (first|exact .nil rfl rfl|refine .cons rfl ?_),hle4,hL31,hs.sub (by repeat (first|exact Sub.refl _|constructor|apply Sub.weaken))⟩
     ·refine .alloc hs bY rfl ?_;intro b7 w hs
      refine .go ?_
      refine .e1 (i:=6) (by kernel_rfl) rfl rfl .none hs ?_
      refine .call Tryz.call185 rfl (kM (s:=t) hs ⟨_,rfl,hLt⟩ hone (by omega)) ?_;rintro _ w ⟨H4,hle4,⟨u31,rfl,hL31⟩,hs⟩
      obtain ⟨a31,c31,rfl⟩:=RL.shape hL31
      refine .go ?_
      refine .e1 (i:=8) (by kernel_rfl) rfl rfl .none hs ?_
      refine .aS (vs:=[_,_]) hs rfl rfl aB ?_;intro w hs
      refine .go ?_
      refine .done (by kernel_rfl) hs ?_
      exact nT ⟨b7,_,H4,by repeat (first|exact .nil rfl rfl|refine .cons rfl ?_),hle4,hL31,hs.sub (by repeat (first|exact Sub.refl _|constructor|apply Sub.weaken))⟩
    ·obtain ⟨hij,hC,htk0,hV,hio,hgi,hone,hcap,htl⟩:=hfac (by omega)
     rintro fs w ⟨b7,u7,H4,hfs,hle4,hL7,hs⟩
     refine WE.sub ?_ hfs
     obtain ⟨a7,c7,rfl⟩:=RL.shape hL7
     refine .ai (.y hs (zls [_,_] aU aB) ?_)
     refine .o (.call Tryz.call183 rfl (nb (s:=t.wo [gi L i]) hs ⟨_,rfl,hL7⟩ (htok.wo _)) ?_);rintro _ w ⟨H5,b33,hle5,rfl,hb33,hs⟩
     have hle25:=hle3.trans (hle4.trans hle5)
     have rO5:=rO.mono (hle4.trans hle5)
     refine .nil ?_
     refine (.cond rfl (fun hc33=>?_) (fun hc33=>?_))
     ·refine .ai (.y hs (zls [_,_] aU aB) ?_)
      refine .o (.aS (vs:=[_,_]) hs rfl rfl aB ?_);intro w hs
      refine .nil ?_
      refine .draw mix rfl hs ?_;intro w hs
      refine .z 1 rfl zm ?_;refine .z 2 rfl zm ?_
      refine .p (i:=3) rfl (by kernel_rfl) .none (jB (k:=i) rfl rfl aa ae (by omega) (by omega)) ?_
      refine .z 5 rfl zm ?_;refine .z 6 rfl zm ?_;refine .z 7 rfl cA ?_
      refine .p (i:=8) rfl (by kernel_rfl) .none (nh (k:=i+1) rfl rfl aa ae (by omega) (by omega)) ?_
      refine .e1 (i:=0) (by kernel_rfl) rfl rfl .none hs ?_
      refine .buildSlice (cells:=[]) hs iD rfl rfl ?_;intro b35 w hs
      refine .go ?_
      refine .e1 (i:=4) (by kernel_rfl) rfl rfl .none hs ?_
      refine .append (xs:=[]) (ys:=Is (out.take i)) hs bP rfl rfl (.full (b:=b35) (len:=0) rfl) (Src.ints (rO5.head (k:=i) (by omega))) (fL _) (fun l' h=>by simp at h;rw [List.length_take];omega) ?_;intro v39 en39 w hO39 hs
      rw [List.nil_append] at hO39
      obtain ⟨a39,l39,c39,rfl,h39⟩:=hO39.shape
      refine .go ?_
      refine .e1 (i:=9) (by kernel_rfl) rfl rfl .none hs ?_
      refine .append (ys:=Is (out.drop (i+1))) hs bP rfl rfl hO39 (Src.ints (rO5.tail (k:=i+1) (by omega))) (fL _) (fun l' h=>by simp at h;rw [List.length_drop];omega) ?_;intro v44 en44 w hO44 hs
      rw [show ∀A B:List Int,Is A++Is B=Is (A++B) from fun A B=>by simp [Is],←filter_one hV.up hio,hgi] at hO44
      refine .go ?_
      refine .z 10 rfl zg ?_;refine .done (by kernel_rfl) hs ?_
      refine nB (nT ?_)
      refine .region (.z zm (.z gM (.z zg (.nil ?_))))
      refine nT ?_
      have hfl:=List.length_filter_le (fun x=> !decide (x=gi L i)) out
      obtain ⟨a44,c44,rfl⟩:=hO44.yH
      obtain ⟨H6,hle6,rN,hs⟩:=cu.df hO44 (by omega) hs (by repeat constructor)
      exact ⟨(j+1,_),.cq rfl (by dsimp only;omega) (by repeat (first|exact .nil rfl rfl|refine .cons rfl ?_)),⟨by dsimp only;omega,t.wo [gi L i],_,_,H6,hle25.trans hle6,hL7.mono (hle5.trans hle6),rN,htok.wo _,by
       dsimp only
       rw [show L.length - (j+1)=i by omega]
       exact .drop hC (hb33.1 hc33),by
       dsimp only
       rw [←hgi,filter_one hV.up hio,show L.length - (j+1)=i by omega,List.take_append_of_le_length (by rw [List.length_take];omega),List.take_take,Nat.min_self]
       exact htk0,by omega,hs.sub (by repeat (first|exact Sub.refl _|constructor|apply Sub.weaken))⟩,by dsimp only;omega⟩
     ·refine .skip ?_
      refine nB (nT ?_)
      refine .region (.z zm (.z gM (.z zg (.nil ?_))))
      refine nT ?_
      exact ⟨(j+1,.slice aO out.length cO),.cq rfl (by dsimp only;omega) (by repeat (first|exact .nil rfl rfl|refine .cons rfl ?_)),⟨by dsimp only;omega,t,out,_,H5,hle25,hLt.mono (hle4.trans hle5),rO5,htok,by
       dsimp only
       rw [show L.length - (j+1)=i by omega]
       exact .keep hC (Classical.byContradiction fun h=>by simp [hb33.2 h] at hc33),by
       dsimp only
       rw [show L.length - (j+1)=i by omega]
       exact htk0,hol,hs.sub (by repeat (first|exact Sub.refl _|constructor|apply Sub.weaken))⟩,by dsimp only;omega⟩
   ·refine .exit ?_
    refine xT (xT (xB (nT ?_)))
    refine .ai (.z zm (.z zg (.z zg (.nil ?_))))
    refine .ret (Fin.lg Du rfl rfl ?_)
    obtain rfl:L.length=j:=by omega
    rw [Nat.sub_self] at hC
    exact ⟨H3,_,out,0,hle12.trans hle3,rfl,rO,.ok hok hns hRise hC,hs.out⟩
theorem oC{H:bn}{w:World}{σ:List Ent}{a0 a1 a2:Int}(hs:St H w σ):Cl Tryz.prog 274 [I a0,I a1,I a2] w fun v w'=>v= .bool (decide (a1≤a0∧a0≤a2))∧St H w' σ:=by
 refine Cl.of Tryz.func274 rfl Tryz.ntmps274 (by simp) (aj (k:=0) rfl (aj (k:=1) rfl (aj (k:=2) rfl (bh)))) ?_
 refine .ai (.z zg (.nil (.ai (.z zm (.z zm (.z wH (.z zm ?_)))))))
 refine .iE (t':=10) rfl (fun hb10=>?_) (fun hb10=>?_)
 ·refine .gT rfl rfl ?_
  refine .z zm ?_
  refine .gT rfl rfl ?_
  refine .z zm ?_
  refine .gT rfl rfl ?_
  refine .z wH (.z zpT (.z zg (.nil ?_)))
  refine .ret (Fin.bI Tryz.results274 rfl ?_)
  exact ⟨by simp [*],hs.out⟩
 ·refine .gFs 3 3 true rfl rfl rfl ?_
  refine .z zpF (.z zg (.nil ?_))
  refine .ret (Fin.bI Tryz.results274 rfl ?_)
  exact ⟨by simp [*],hs.out⟩
theorem gO{H:bn}{w:World}{σ:List Ent}{v:Value}{l:List Int}{many:Nat}{most:Int}(hs:St H w σ)(hr:RI H v l):
  Cl Tryz.prog 247 [v,I many,I most] w fun v w'=>∃b:Bool,v= .bool b∧(b=true↔eu many most l)∧St H w' σ:=by
 obtain ⟨a,c,rfl⟩:=RI.shape hr
 have hlen:=(RI.len hr).2.2
 refine Cl.of Tryz.func247 rfl Tryz.ntmps247 (by simp) (aj (k:=0) rfl (aj (k:=1) rfl (aj (k:=2) rfl (bh)))) ?_
 refine .ai (.z zg (.nil (.seq (.ai (.z zm (.z (cM aa) (.z zm ?_)))))))
 refine .o (.call Tryz.call274 rfl (oC hs) ?_);rintro _ w ⟨rfl,hs⟩
 refine .z iI (.z zm ?_)
 refine .bif (t':=14) rfl (fun hb14=>?_) (fun hb14=>?_)
 ·refine .gFs 4 5 false rfl rfl rfl ?_
  refine .z zpT (.z zm ?_)
  refine .gFs 8 11 false rfl rfl rfl ?_
  refine .z zpT (.nil ?_)
  refine (.fj rfl (by first|rfl|exact decide_eq_true (by assumption)) ?_)
  refine .ai (.z zg (.nil ?_))
  refine .ret (rT (Fin.bI nO rfl ?_))
  exact ⟨false,rfl,⟨fun h=>(by cases h),fun h=>by have:=h.two;have:=h.many;simp at hb14;omega⟩,hs⟩
 ·refine .gT rfl rfl ?_
  refine .z zm ?_
  refine .gT rfl rfl ?_
  have htwo:2≤l.length∧l.length≤many:=by simp at hb14;omega
  refine .ixY hs hr rfl rfl aa ae (br (l:=l) (i:=0) (by omega)) (by first|rfl|assumption|omega) ?_;intro b16 o16 hc16
  refine .gT rfl rfl ?_
  refine .q hs (aM rfl af hc16) ?_
  refine .gT rfl rfl ?_
  refine .z fN (.z zpF (.z zm ?_))
  refine .iE (t':=20) rfl (fun hb20=>?_) (fun hb20=>?_)
  ·refine .gFs 8 11 false rfl rfl rfl ?_
   refine .z zpT (.nil ?_)
   refine (.fj rfl (by first|rfl|exact decide_eq_true (by assumption)) ?_)
   refine .ai (.z zg (.nil ?_))
   refine .ret (rT (Fin.bI nO rfl ?_))
   exact ⟨false,rfl,⟨fun h=>(by cases h),fun h=>by have:=h.low;omega⟩,hs⟩
  ·refine .gT rfl rfl ?_
   refine .z zm ?_
   refine .gT rfl rfl ?_
   refine .z zm ?_
   refine .gT rfl rfl ?_
   refine .z (cM aa) ?_
   refine .gT rfl rfl ?_
   refine .z gM ?_
   refine .gT rfl rfl ?_
   refine .ixY hs hr rfl rfl aa ae (br (l:=l) (i:=(l.length - 1)) (by omega)) (by first|rfl|assumption|omega) ?_;intro b25 o25 hc25
   refine .gT rfl rfl ?_
   refine .q hs (aM rfl af hc25) ?_
   refine .gT rfl rfl ?_
   refine .z zm ?_
   refine .gT rfl rfl ?_
   refine .z lk (.z zpF (.nil ?_))
   refine (.bJ rfl (fun hc29=>?_) (fun hc29=>?_))
   ·refine .ai (.z zg (.nil ?_))
    refine .ret (rT (Fin.bI nO rfl ?_))
    exact ⟨false,rfl,⟨fun h=>(by cases h),fun h=>by have:=h.high;omega⟩,hs⟩
   ·refine .skip ?_
    refine nT ?_
    refine .seq (.ai (.z zm ?_))
    refine .q hs (nh (k:=1) rfl rfl aa ae (by omega) (by omega)) ?_
    refine .z (cM aa) (.z zm (.nil ?_))
    refine .for (N:=l.length - 1) (J:=fun k fr w=>fr=[(31,.slice (if c=1 then a else a.map (·.add (1*1))) (l.length - 1) (c - 1)),(0,.slice a l.length c)]∧(∀j<k,gi l j<gi l (j+1))∧St H w σ) (by omega) ?_ ?_ ?_
    ·exact .mk ⟨rfl,fun j hj=>by omega,hs⟩
    ·rintro k fr w hk ⟨rfl,hno,hs⟩
     have ht:=hr.tail (k:=1) (by omega)
     have hx:(l.drop 1)[k]? =some (gi l (k+1)):=by rw [List.getElem?_drop,Nat.add_comm];exact br (by omega)
     refine .block (.ai (.z zm ?_))
     refine .ixY hs ht rfl rfl aa ae hx rfl ?_;intro b36 o36 hc36
     refine .q hs (aM rfl af hc36) ?_
     refine .z zg (.z zg (.nil (.ai (.z zm (.z zm ?_)))))
     refine .ixY hs hr rfl rfl aa ae (br (l:=l) (i:=k) (by omega)) (by first|rfl|assumption|omega) ?_;intro b40 o40 hc40
     refine .q hs (aM rfl af hc40) ?_
     refine .z zm (.z wI (.nil ?_))
     refine (.bJ rfl (fun hc43=>?_) (fun hc43=>?_))
     ·refine .ai (.z zg (.nil ?_))
      refine .ret (rB (rT (rB (rT (Fin.bI nO rfl ?_)))))
      exact ⟨false,rfl,⟨fun h=>(by cases h),fun h=>by have:=h.rise k (by omega);omega⟩,hs⟩
     ·refine .skip ?_
      refine nB (nT ?_)
      exact .mk ⟨rfl,fun j hj=>by
       by_cases e:j=k
       ·subst e;omega
       ·exact hno j (by omega),hs⟩
    ·rintro fr w ⟨rfl,hno,hs⟩
     refine nT ?_
     refine .ai (.z zg (.nil ?_))
     refine .ret (Fin.bI nO rfl ?_)
     exact ⟨true,rfl,⟨fun _=>⟨by omega,by omega,by omega,by omega,fun i hi=>hno i (by omega)⟩,fun _=>rfl⟩,hs⟩
theorem mF{H:bn}{w:World}{σ:List Ent}{v:Value}{l:List Int}(hs:St H w σ)(hr:RI H v l):
  Cl Tryz.prog 294 [v] w fun v w'=>∃e,v=I e∧((eu 9 100000 l∧e=0)∨(¬eu 9 100000 l∧e≠0))∧St H w' σ:=by
 obtain ⟨a,c,rfl⟩:=RI.shape hr
 refine Cl.of Tryz.func294 rfl Tryz.ntmps294 (by simp) (aj (k:=0) rfl (bh)) ?_
 refine .ai (.z zg (.nil (.seq (.ai (.z zm ?_)))))
 refine .o (.call Tryz.call247 rfl (gO (many:=9) (most:=100000) hs hr) ?_);rintro _ w ⟨b4,rfl,hb4,hs⟩
 refine .z iI (.nil ?_)
 refine (.cond rfl (fun hc5=>?_) (fun hc5=>?_))
 ·refine .ai (.z zg (.nil ?_))
  refine .ret (rT (Fin.bI Tryz.results294 rfl ?_))
  exact ⟨_,rfl,.inr ⟨fun h=>by simp [hb4.2 h] at hc5,by decide⟩,hs⟩
 ·refine .skip ?_
  refine nT ?_
  refine .ai (.z zg (.nil ?_))
  refine .ret (Fin.bI Tryz.results294 rfl ?_)
  exact ⟨_,rfl,.inl ⟨hb4.1 (by simpa using hc5),rfl⟩,hs⟩
theorem gZ{H:bn}{w:World}{σ:List Ent}{a b:Int}(hs:St H w σ)(ha:0<a)(hb:0<b∧b≤100000):
  Cl Tryz.prog 277 [I a,I b] w fun v w'=>v=I (rat a b)∧St H w' σ:=by
 have h1:0≤b.tdiv a:=Int.tdiv_nonneg (by omega) (by omega)
 have h2:b.tdiv a≤b:=by rw [Int.tdiv_eq_ediv_of_nonneg (by omega)];exact Int.ediv_le_self _ (by omega)
 have hw:=kx (m:=b.tdiv a) ⟨by omega,by omega⟩
 refine Cl.of Tryz.func277 rfl Tryz.ntmps277 (by simp) (aj (k:=0) rfl (aj (k:=1) rfl (bh))) ?_
 refine .ai (.z zg (.nil (.seq (.ai (.z zm (.z zm (.z Af (.z fA (.z zm ?_)))))))))
 refine .iE (t':=9) rfl (fun hb9=>?_) (fun hb9=>?_)
 ·refine .gT rfl rfl ?_
  refine .z zm ?_
  refine .gT rfl rfl ?_
  refine .z zm ?_
  refine .gT rfl rfl ?_
  refine .z zquo ?_
  refine .gT rfl rfl ?_
  refine .z wH (.z zpT (.nil ?_))
  refine (.bJ rfl (fun hc14=>?_) (fun hc14=>?_))
  ·refine .ai (.z zm (.z zm (.z zquo (.z zg (.nil ?_)))))
   refine .ret (rT (Fin.bI BI rfl ?_))
   rw [hw] at hc14 ⊢
   exact ⟨by unfold rat;rw [if_pos ⟨by assumption,by assumption⟩],hs⟩
  ·refine .skip ?_
   refine nT ?_
   refine .ai (.z zg (.nil ?_))
   refine .ret (Fin.bI BI rfl ?_)
   rw [hw] at hc14
   exact ⟨by unfold rat;rw [if_neg (by omega)],hs⟩
 ·refine .gFs 4 4 true rfl rfl rfl ?_
  refine .z zpF (.nil ?_)
  refine (.mj rfl (by first|rfl|exact decide_eq_false (by assumption)) ?_)
  refine .skip ?_
  refine nT ?_
  refine .ai (.z zg (.nil ?_))
  refine .ret (Fin.bI BI rfl ?_)
  exact ⟨by unfold rat;rw [if_neg (by omega)],hs⟩
def pU(l:List Int):List (List Value):=(lP l).map fun g=>[Value.agg #[I (g.at_:Int),I (g.n:Int)]]
theorem Ak{l:List Int}(hp:eu 9 100000 l){i:Nat}(h:i+2<l.length):eg l i=true↔0<rat (gi l (i+1) - gi l i) (gi l (i+2) - gi l (i+1))∨0<rat (gi l (i+2) - gi l (i+1)) (gi l (i+1) - gi l i):=by
 have h1:=hp.rise i (by omega)
 have h2:gi l (i+1)<gi l (i+2):=hp.rise (i+1) (by omega)
 unfold eg
 rw [Ao (by omega) (by omega)]
 simp only [Bool.and_eq_true,decide_eq_true_eq]
 omega
theorem oD{H:bn}{b:Nat}{v:Value}{l:List Int}(hp:eu 9 100000 l)(hb:Row H b [v])(hr:RI H v l):Iter Tryz.prog 295 [.pointer (some ⟨b,0,none⟩)] H (pU l):=by
 intro ly II Ix _ _ hy H0 σb0 σf w hle hI0 hs
 obtain ⟨a,c,rfl⟩:=RI.shape hr
 have hlen:=hp.many
 have hb0:cellAt H0 b 0=some (.slice a l.length c):=cellAt.mono (hb.at 0) hle
 refine Cl.of Tryz.func295 rfl Tryz.ntmps295 (by simp) (aj (k:=0) rfl (aj (k:=1) rfl (bh))) ?_
 refine .ai (.z zg (.nil (.block ?_)))
 refine .loop (fun i:Nat=>⟨59,[],[(3,I (i:Int)),(0,.func (.yield ly) #[] #[]),(1,.pointer (some ⟨b,0,none⟩))]⟩)
  (fun i w=>i≤l.length∧∃j,j≤(lP l).length∧(lP l).drop j=mz l i∧∃H1 σb,HLe H H1∧HLe H0 H1∧II j H1 σb∧St H1 w (σb++σf)) (fun i=>l.length - i) 0 (.cq rfl (by simp) (by repeat (first|exact .nil rfl rfl|refine .cons rfl ?_)))
  ⟨Nat.zero_le _,0,Nat.zero_le _,rfl,H0,σb0,hle,HLe.refl _,hI0,hs⟩ ?_
 clear hs hI0
 rintro i w ⟨hil,j,hj,hd,H1,σb,hle1,hle0,hI,hs⟩
 have hb1:cellAt H1 b 0=some (.slice a l.length c):=cellAt.mono hb0 hle0
 refine .seq (.ai (.z zm (.z cA (.y hs (zld ak) (.z (cM aa) (.z fN (.nil ?_)))))))
 refine (.bJ rfl (fun hc11=>?_) (fun hc11=>?_))
 ·refine .skip ?_
  refine nT ?_
  refine .block (.ai (.z zm (.z (zbd [_,_] qe) ?_)))
  refine .o (.alloc hs ln rfl ?_);intro b4 w hs
  refine .o (.aS (vs:=[_,_]) hs rfl rfl jN ?_);intro w hs
  refine .nil ?_
  refine .cut (fun fs w=>kJ fs ⟨59,[],[(4,.pointer (some ⟨b4,0,none⟩)),(3,I (i:Int)),(0,.func (.yield ly) #[] #[]),(1,.pointer (some ⟨b,0,none⟩))]⟩∧St H1 w (.blk b4 [I (i:Int),I (((if eg l i then 2 else 1:Nat)):Int)]::(σb++σf))) ?_ ?_
  ·refine .ai (.z zm (.z cA (.y hs (zld ak) (.z (cM aa) (.z fN (.nil ?_))))))
   refine (.bJ rfl (fun hc18=>?_) (fun hc18=>?_))
   ·refine .seq (.draw mix rfl hs ?_);intro w hs
    refine .y 0 rfl hs ak ?_;refine .z 1 rfl zm ?_;refine .z 2 rfl cA ?_
    have r1:=hp.rise i (by omega)
    have r2:gi l (i+1)<gi l (i+2):=hp.rise (i+1) (by omega)
    have hiff:=Ak hp (i:=i) (by omega)
    have q1:=hp.bd (i:=i) (by omega)
    have q2:=hp.bd (i:=i+2) (by omega)
    refine .ixX (enc:=fun x=>[I x]) (i:=3) hs rfl (by kernel_rfl) .none (hr.mono hle1) rfl rfl aa ae (br (l:=l) (i:=(i+1)) (by omega)) (by first|rfl|assumption|omega) ?_;intro b22 o22 hc22;replace hc22:=bG.one hc22
    refine .r (i:=4) hs rfl (by kernel_rfl) .none (aM rfl af hc22) ?_
    refine .y 5 rfl hs ak ?_;refine .z 6 rfl zm ?_
    refine .ixX (enc:=fun x=>[I x]) (i:=7) hs rfl (by kernel_rfl) .none (hr.mono hle1) rfl rfl aa ae (br (l:=l) (i:=i) (by omega)) (by first|rfl|assumption|omega) ?_;intro b26 o26 hc26;replace hc26:=bG.one hc26
    refine .r (i:=8) hs rfl (by kernel_rfl) .none (aM rfl af hc26) ?_
    refine .z 9 rfl gM ?_;refine .y 10 rfl hs ak ?_;refine .z 11 rfl zm ?_;refine .z 12 rfl cA ?_
    refine .ixX (enc:=fun x=>[I x]) (i:=13) hs rfl (by kernel_rfl) .none (hr.mono hle1) rfl rfl aa ae (br (l:=l) (i:=(i+2)) (by omega)) (by first|rfl|assumption|omega) ?_;intro b32 o32 hc32;replace hc32:=bG.one hc32
    refine .r (i:=14) hs rfl (by kernel_rfl) .none (aM rfl af hc32) ?_
    refine .y 15 rfl hs ak ?_;refine .z 16 rfl zm ?_;refine .z 17 rfl cA ?_
    refine .ixX (enc:=fun x=>[I x]) (i:=18) hs rfl (by kernel_rfl) .none (hr.mono hle1) rfl rfl aa ae (br (l:=l) (i:=(i+1)) (by omega)) (by first|rfl|assumption|omega) ?_;intro b37 o37 hc37;replace hc37:=bG.one hc37
    refine .r (i:=19) hs rfl (by kernel_rfl) .none (aM rfl af hc37) ?_
    refine .z 20 rfl gM ?_;refine .z 21 rfl zg ?_;refine .z 22 rfl zg ?_;refine .done (by kernel_rfl) hs ?_
    refine .ai (.z zm (.z zm ?_))
    refine .o (.call Ab rfl (gZ hs (by omega) (by omega)) ?_);rintro _ w ⟨rfl,hs⟩
    refine .z lk (.z zm ?_)
    refine .iE (t':=44) rfl (fun hb44=>?_) (fun hb44=>?_)
    ·refine .gFs 4 4 false rfl rfl rfl ?_
     refine .z zpT (.nil ?_)
     refine (.fj rfl (by first|rfl|exact decide_eq_true (by assumption)) ?_)
     refine .region (.z (zfa gX) ?_)
     refine .o (.store hs rfl rfl ae ?_);intro w hs
     refine .nil ?_
     refine nT ?_
     rw [hiff.2 (.inl hb44)];exact ⟨by repeat (first|exact .nil rfl rfl|refine .cons rfl ?_),hs⟩
    ·refine .gT rfl rfl ?_
     refine .z zm ?_
     refine .gT rfl rfl ?_
     refine .z zm ?_
     refine .gT rfl rfl ?_
     refine .o (.call Ab rfl (gZ hs (by omega) (by omega)) ?_);rintro _ w ⟨rfl,hs⟩
     refine .gT rfl rfl ?_
     refine .z lk (.z zpF (.nil ?_))
     refine (.bJ rfl (fun hc49=>?_) (fun hc49=>?_))
     ·refine .region (.z (zfa gX) ?_)
      refine .o (.store hs rfl rfl ae ?_);intro w hs
      refine .nil ?_
      refine nT ?_
      rw [hiff.2 (.inr hc49)];exact ⟨by repeat (first|exact .nil rfl rfl|refine .cons rfl ?_),hs⟩
     ·refine .skip ?_
      refine nT ?_
      rw [show eg l i=false from Bool.eq_false_iff.2 fun h=>by have:=hiff.1 h;omega];exact ⟨by repeat (first|exact .nil rfl rfl|refine .cons rfl ?_),hs⟩
   ·refine .skip ?_
    refine nT ?_
    rw [show eg l i=false by simp [eg];omega];exact ⟨by repeat (first|exact .nil rfl rfl|refine .cons rfl ?_),hs⟩
  ·rintro fs w ⟨hfs,hs⟩
   refine WE.sub ?_ hfs
   have hgo:=te (l:=l) (i:=i) (by omega)
   rw [hgo] at hd
   have hjl:j<(lP l).length:=by
    have:=congrArg List.length hd
    simp at this;omega
   have hgj:(lP l)[j]=⟨i,eg l i⟩:=by
    rw [List.drop_eq_getElem_cons hjl] at hd
    exact (List.cons.inj hd).1
   have hdj:(lP l).drop (j+1)=mz l (i+(if eg l i then 2 else 1)):=by
    rw [List.drop_eq_getElem_cons hjl] at hd
    exact (List.cons.inj hd).2
   have hn12:(if eg l i then 2 else 1:Nat)=1∨(if eg l i then 2 else 1:Nat)=2:=by split<;>simp
   refine .seq (.ai (.z zm (.y hs (zls [_,_] Tryz.isAgg300 jN) ?_)))
   have hk':j<(pU l).length:=by simpa [pU] using hjl
   have hyd:=hy j hk' H1 σb (.blk b4 [I (i:Int),I (((if eg l i then 2 else 1:Nat)):Int)]::σf) w hle1 hI (St.deep hs)
   rw [show (pU l)[j]=[Value.agg #[I (i:Int),I (((if eg l i then 2 else 1:Nat)):Int)]] by simp only [pU,List.getElem_map,hgj];rfl] at hyd
   refine .o (.yield rfl rfl hyd ?_);rintro v53 w ⟨H2,σ2,g1,hs,g3⟩
   obtain ⟨bb,rfl,gT,gF⟩:=oA g3
   replace hs:=St.shallow hs
   refine .z iI (.nil ?_)
   refine (.cond rfl (fun hc54=>?_) (fun hc54=>?_))
   ·refine .ret (rT (rB (rT (rB (Fin.ret0 Tryz.results295 ?_)))))
    exact ⟨H2,σ2,hle0.trans g1,hs.tail,.inr (gF (by simpa using hc54))⟩
   ·refine .skip ?_
    refine nT ?_
    refine .region (.z zm (.z (zfa gX) (.y hs (zld af) (.z cA (.z zg (.nil ?_))))))
    refine nB (nT ?_)
    generalize (if eg l i then 2 else 1:Nat)=n at*
    exact ⟨i+n,.cq rfl (by simp) (by repeat (first|exact .nil rfl rfl|refine .cons rfl ?_)),⟨by omega,j+1,hjl,hdj,H2,σ2,hle1.trans g1,hle0.trans g1,gT (by simpa using hc54),hs.tail⟩,by omega⟩
 ·refine .exit ?_
  refine xT (xT (xB ?_))
  rw [qK (by omega)] at hd
  have:(lP l).length≤j:=by simpa using hd
  obtain rfl:j=(lP l).length:=by omega
  exact Fin.xC Tryz.results295 ⟨H1,σb,hle0,hs,.inl (by simpa [pU] using hI)⟩
theorem qq{H:bn}{w:World}{σ:List Ent}{v:Value}{l:List Int}(hs:St H w σ)(hr:RI H v l)(hp:eu 9 100000 l):
  Cl Tryz.prog 276 [v] w fun u w'=>∃H1 b,HLe H H1∧u= .func (.func 295) #[] #[.pointer (some ⟨b,0,none⟩)]∧Iter Tryz.prog 295 [.pointer (some ⟨b,0,none⟩)] H1 (pU l)∧St H1 w' σ:=by
 obtain ⟨a,c,rfl⟩:=RI.shape hr
 refine Cl.of Tryz.func276 rfl Tryz.ntmps276 (by simp) (aj (k:=0) rfl (bh)) ?_
 refine .ai ?_
 refine .o (.box hs rfl rfl ?_);intro b1 w hs
 refine .z zg (.nil (.ai ?_))
 refine .q hs (dC (f:=[]) (c:=[_]) rfl rfl) ?_
 refine .z zg (.nil ?_)
 refine .ret (Fin.bI Tryz.results276 rfl ?_)
 obtain ⟨H1,g1,g2,hs⟩:=hs.cP .here
 exact ⟨H1,b1,g1,rfl,oD hp g2 (hr.mono g1),hs⟩
theorem om{H:bn}{w:World}{σ:List Ent}{bs bW from_ n:Nat}{W xs:List Int}{v:Value}(hs:St H w (.blk bs [.slice (some ⟨bW,0,none⟩) n n]:: .blk bW (Is W)::σ))(hW:W.length=n)(hr:RI H v xs)(hl:from_+xs.length≤n)(hn:n≤9)
  (hz:bB W n≤1000000000) (ha:uR xs≤1000000000):
  Cl Tryz.prog 275 [.pointer (some ⟨bs,0,none⟩),I (from_:Int),v] w fun _ w'=>St H w' (.blk bs [.slice (some ⟨bW,0,none⟩) n n]:: .blk bW (Is (kB W from_ xs))::σ):=by
 obtain ⟨a,c,rfl⟩:=RI.shape hr
 have hlen:=(RI.len hr).2.2
 refine Cl.of Tryz.func275 rfl Tryz.ntmps275 (by simp) (aj (k:=0) rfl (aj (k:=1) rfl (aj (k:=2) rfl (bh)))) ?_
 refine .ai (.z zm (.z (cM aa) (.z zm (.nil ?_))))
 refine .for (N:=xs.length) (J:=fun k fr w=>fr=[(8,.slice a xs.length c),(0,.pointer (some ⟨bs,0,none⟩)),(1,I (from_:Int))]∧St H w (.blk bs [.slice (some ⟨bW,0,none⟩) n n]:: .blk bW (Is (kB W from_ (xs.take k)))::σ)) (by omega) ?_ ?_ ?_
 ·exact .mk ⟨rfl,hs⟩
 ·rintro k fr w hk ⟨rfl,hs⟩
  have hal:=ny (xs.take k) W from_
  have hsz:=o8 (xs.take k) W from_ (by rw [List.length_take];omega)
  rw [hW] at hsz
  have h1:=xx xs k
  have h2:=Bv xs k
  have h3:=hZ (kB W from_ (xs.take k)) (v:=from_+k) (n:=n) (by omega)
  have h4:=z6 hk W from_
  refine .block (.ai (.z zm ?_))
  refine .ixY hs hr rfl rfl aa ae (br (l:=xs) (i:=k) (by omega)) (by first|rfl|assumption|omega) ?_;intro b13 o13 hc13
  refine .q hs (aM rfl af hc13) ?_
  refine .z zg (.z zg (.nil (.region (.z zm (.z znc (.z (zfa oq) (.y hs (zld ak) (.z zm (.z zm ?_)))))))))
  refine .z cA ?_
  refine .q hs (dF (k:=from_+k) rfl rfl aa ae (by omega) (by omega)) ?_
  refine .y hs (zld af) (.z zm (.z cA ?_))
  refine .q hs (dF (k:=from_+k) rfl rfl aa ae (by omega) (by omega)) ?_
  refine .o (.store hs rfl rfl ae ?_);intro w hs
  refine .nil ?_
  refine nB (nT ?_)
  exact .mk ⟨rfl,by rw [h4];exact hs⟩
 ·rintro fr w ⟨rfl,hs⟩
  rw [List.take_length] at hs
  exact Fin.xC Tryz.results275 hs
theorem uJ{a b:Int}(ha:0<a∧a≤100000)(hb:0<b∧b≤100000):0≤min a b∧min a b≤100000:=by omega
theorem Ap{a b:Int}(h:0<tms a b):tms a b=1∨tms a b=2∨tms a b=3:=by have:=C8 a b;omega
set_option maxHeartbeats 1000000 in
theorem iJ{H:bn}{w:World}{σ:List Ent}{v:Value}{l:List Int}(hs:St H w σ)(hr:RI H v l)(hp:eu 9 100000 l):
  Cl Tryz.prog 248 [v] w fun u w'=>∃H1,HLe H H1∧RI H1 u (wts l)∧St H1 w' σ:=by
 obtain ⟨a,c,rfl⟩:=RI.shape hr
 have hln:=hp.many
 have hgl:(lP l).length≤9:=by have:=kT l l.length 0;unfold lP;omega
 refine Cl.of Tryz.func248 rfl Tryz.ntmps248 (by simp) (aj (k:=0) rfl (bh)) ?_
 refine .ai ?_
 refine .o (.box hs rfl rfl ?_);intro b1 w hs
 refine .z zg (.nil (.ai (.y hs (zld ak) (.z (cM aa) ?_))))
 refine .o (.oT l.length hs rfl rfl aa dq rfl ae bH (by omega) ?_);intro b13 w hs
 refine .z (zbd [_] wb) ?_
 refine .o (.alloc hs Tryz.zeroValue294 rfl ?_);intro b3 w hs
 refine .o (.aS (vs:=[_]) hs rfl rfl Tryz.sizeOf294 ?_);intro w hs
 refine .nil (.ai ?_)
 refine .q hs (dC (f:=[_]) (c:=[]) rfl rfl) ?_
 refine .o (.alloc hs Tryz.zeroValue295 rfl ?_);intro b4 w hs
 refine .o (.store hs rfl rfl Tryz.sizeOf295 ?_);intro w hs
 refine .nil (.seq (.ai (.y hs (zld ak) ?_)))
 refine .o (.call Tryz.call276 rfl (qq hs hr hp) ?_);rintro _ w ⟨H1,b17,hle1,rfl,hit,hs⟩
 refine .nil (.block ?_)
 refine .rangeFunc (gf:=295) (cap:=[.pointer (some ⟨b17,0,none⟩)]) (xs:=pU l) (σb:=[.blk b3 [.slice (some ⟨b13,0,none⟩) l.length l.length],.blk b13 (Is (sv l 0)),.blk b4 [.func (.func 275) #[.pointer (some ⟨b3,0,none⟩)] #[]],.blk b1 [.slice a l.length c]]) (σf:=σ) (hs.sub (by repeat (first|exact Sub.refl _|constructor|apply Sub.weaken))) trivial rfl hit Tryz.call295 (fun x hx=>by
   simp only [pU,List.mem_map] at hx
   obtain ⟨j,_,rfl⟩:=hx;rfl) rfl
  (I:=fun j H' σb=>σb=[.blk b3 [.slice (some ⟨b13,0,none⟩) l.length l.length],.blk b13 (Is (sv l j)),.blk b4 [.func (.func 275) #[.pointer (some ⟨b3,0,none⟩)] #[]],.blk b1 [.slice a l.length c]]) (Ix:=fun _ _ _=>False)
  (fun j _ _ σ g1 g2=>g2) (fun _ _ _ _ _ h=>h) rfl ?_ ?_ (fun D c H' σb w _ h _=>h.elim)
 ·rintro ly j hj H2 σb2 σf2 w hle2 rfl hs ⟨rr,hrr⟩
  have hjl:j<(lP l).length:=by simpa [pU] using hj
  obtain ⟨g,hg⟩:=nth hjl
  rw [show (pU l)[j]=[Value.agg #[I (g.at_:Int),I (g.n:Int)]] by
   rw [List.getElem?_eq_getElem hjl] at hg
   simp only [pU,List.getElem_map,Option.some.inj hg]]
  obtain ⟨i1,i2,i3,i4,i5⟩:=tf hp (List.mem_of_getElem? hg)
  have hK:=su hg
  have hKl:=mb l j
  have hKz:=qn hp j (by omega)
  have hr2:=hr.mono (hle1.trans hle2)
  have hq0:=hp.bd (i:=g.at_) (by omega)
  have hq1:=hp.bd (i:=g.at_+1) (by omega)
  generalize hA:gi l (g.at_+1) - gi l g.at_=A at*
  refine .region ?_
  refine .o (.alloc hs ln rfl ?_);intro b5 w hs
  refine .o (.aS (vs:=[_,_]) hs rfl rfl jN ?_);intro w hs
  refine .nil ?_
  refine nT ?_
  refine ⟨H2,[.blk b5 [I (g.at_:Int),I (g.n:Int)],.blk b3 [.slice (some ⟨b13,0,none⟩) l.length l.length],.blk b13 (Is (sv l j)),.blk b4 [.func (.func 275) #[.pointer (some ⟨b3,0,none⟩)] #[]],.blk b1 [.slice a l.length c]],HLe.refl _,hs,?_⟩;rintro w σf4 - hs
  refine .block ?_
  refine .seq (.draw mix rfl hs ?_);intro w hs
  refine .y 0 rfl hs ak ?_;refine .z 1 rfl (zfa fu) ?_;refine .y 2 rfl hs af ?_;refine .z 3 rfl cA ?_
  refine .ixX (enc:=fun x=>[I x]) (i:=4) hs rfl (by kernel_rfl) .none hr2 rfl rfl aa ae (br (l:=l) (i:=(g.at_+1)) (by omega)) (by first|rfl|assumption|omega) ?_;intro b23 o23 hc23;replace hc23:=bG.one hc23
  refine .r (i:=5) hs rfl (by kernel_rfl) .none (aM rfl af hc23) ?_
  refine .y 6 rfl hs ak ?_;refine .z 7 rfl (zfa fu) ?_;refine .y 8 rfl hs af ?_
  refine .ixX (enc:=fun x=>[I x]) (i:=9) hs rfl (by kernel_rfl) .none hr2 rfl rfl aa ae (br (l:=l) (i:=g.at_) (by omega)) (by first|rfl|assumption|omega) ?_;intro b28 o28 hc28;replace hc28:=bG.one hc28
  refine .r (i:=10) hs rfl (by kernel_rfl) .none (aM rfl af hc28) ?_
  refine .z 11 rfl gM ?_
  rw [hA]
  refine .z 12 rfl zg ?_;refine .done (by kernel_rfl) hs ?_
  refine .seq (.ai (.z (zfa gX) (.y hs (zld af) (.z fA ?_))))
  skip
  refine .nil ?_
  refine (.bJ rfl (fun hc33=>?_) (fun hc33=>?_))
  ·refine .ai ?_
   refine .y hs (zld Tryz.isAgg295) ?_
   refine .z (zfa fu) (.y hs (zld af) (.z zm (.z j7 (.z zm (.z j7 ?_)))))
   refine .o (.buildSlice (cells:=[_,_]) hs iC rfl rfl ?_);intro b41 w hs
   have h2:g.two=false:=by
    cases e:g.two with
    |false=>rfl
    |true=>simp [Grp.n,e] at hc33
   obtain ⟨H3,hle3,r41,hs⟩:=cu.df (xs:=[18*A,18*A]) (v:= .slice (some ⟨b41,0,none⟩) 2 2) (.full (len:=2) rfl) (by simp) hs (by repeat constructor)
   have hgw:=y7 h2 hA
   rw [hgw] at hK i5
   replace hs:St H3 w (.blk b3 [.slice (some ⟨b13,0,none⟩) l.length l.length]:: .blk b13 (Is (sv l j)):: .blk b5 [I (g.at_:Int),I (g.n:Int)]:: .blk b4 [.func (.func 275) #[.pointer (some ⟨b3,0,none⟩)] #[]]:: .blk b1 [.slice a l.length c]::σf4):=hs.sub (by repeat (first|exact Sub.refl _|constructor|apply Sub.weaken))
   refine .o (.p5 (first:=[.pointer (some ⟨b3,0,none⟩)]) (cap:=[]) rfl rfl Tryz.call275 (om (from_:=g.at_) (xs:=[18*A,18*A]) hs hKl r41 (by simp;omega) (by omega) (by omega) (by omega)) ?_);rintro _ w hs
   rw [←hK] at hs
   refine .nil ?_
   refine .exit ?_
   refine xT (xB ?_)
   exact ⟨H3,_,hle3,(hs.sub (by repeat (first|exact Sub.refl _|constructor|apply Sub.weaken)):St H3 w (.blk b3 _:: .blk b13 _:: .blk b4 _:: .blk b1 _::σf4)),rfl⟩
  ·refine .skip ?_
   refine nT ?_
   refine .seq (.draw mix rfl hs ?_);intro w hs
   have h2:g.two=true:=by
    cases e:g.two with
    |true=>rfl
    |false=>simp [Grp.n,e] at hc33
   obtain ⟨j1,j2,j3,j4⟩:=i4 h2
   have hq2:=hp.bd (i:=g.at_+2) (by omega)
   generalize hB:gi l (g.at_+2) - gi l (g.at_+1)=B at*
   have hmx:=Ao (a:=A) (b:=B) (by omega) (by omega)
   have hk:=Ap j4
   have hmm:=uJ (a:=A) (b:=B) ⟨by omega,by omega⟩ ⟨by omega,by omega⟩
   obtain ⟨n1,n2,n3,n4⟩:=y5 hk hmm.1 hmm.2
   obtain ⟨n5,n6,n7,n8,n9⟩:=n4 _ n3.1 n3.2
   generalize hT:tms A B=T at*
   generalize hM:min A B=M at*
   have hgw:=y6 h2 hA hB hT hM
   refine .y 0 rfl hs ak ?_;refine .z 1 rfl (zfa fu) ?_;refine .y 2 rfl hs af ?_;refine .z 3 rfl cA ?_
   refine .ixX (enc:=fun x=>[I x]) (i:=4) hs rfl (by kernel_rfl) .none hr2 rfl rfl aa ae (br (l:=l) (i:=(g.at_+2)) (by omega)) (by first|rfl|assumption|omega) ?_;intro b47 o47 hc47;replace hc47:=bG.one hc47
   refine .r (i:=5) hs rfl (by kernel_rfl) .none (aM rfl af hc47) ?_
   refine .y 6 rfl hs ak ?_;refine .z 7 rfl (zfa fu) ?_;refine .y 8 rfl hs af ?_;refine .z 9 rfl cA ?_
   refine .ixX (enc:=fun x=>[I x]) (i:=10) hs rfl (by kernel_rfl) .none hr2 rfl rfl aa ae (br (l:=l) (i:=(g.at_+1)) (by omega)) (by first|rfl|assumption|omega) ?_;intro b53 o53 hc53;replace hc53:=bG.one hc53
   refine .r (i:=11) hs rfl (by kernel_rfl) .none (aM rfl af hc53) ?_
   refine .z 12 rfl gM ?_
   rw [hB]
   refine .z 13 rfl zg ?_;refine .done (by kernel_rfl) hs ?_
   refine .ai (.z zm (.z zm ?_))
   refine .o (.call Ab rfl (gZ hs (by omega) (by omega)) ?_);rintro _ w ⟨rfl,hs⟩
   refine .z zm (.z zm ?_)
   refine .o (.call Ab rfl (gZ hs (by omega) (by omega)) ?_);rintro _ w ⟨rfl,hs⟩
   refine .z DA ?_
   rw [←hmx]
   refine .z zg (.nil (.ai (.z zm ?_)))
   refine .q hs (uF rfl rfl (by omega) (by omega)) ?_
   refine .z zm (.z cA (.z j7 (.z zm (.z zm (.z Ad ?_)))))
   rw [hM]
   refine .z j7 (.z zg (.nil (.ai (.z zm (.z zm (.z j7 (.z zm (.z gM (.z j7 ?_)))))))))
   refine .z zm (.z zm (.z cA (.z j7 (.z zm (.z cA (.z j7 (.z zm (.z zm (.z j7 ?_)))))))))
   refine .z gM (.z j7 ?_)
   refine .o (.buildSlice (cells:=[_,_,_]) hs xt rfl rfl ?_);intro b90 w hs
   refine .z zg (.nil ?_)
   refine .cut (fun fs w=>∃H3,kJ fs ⟨103,[],[(10,.slice (some ⟨b90,0,none⟩) 3 3),(5,.pointer (some ⟨b5,0,none⟩)),(4,.pointer (some ⟨b4,0,none⟩)),(3,.pointer (some ⟨b3,0,none⟩)),(1,.pointer (some ⟨b1,0,none⟩))]⟩∧HLe H2 H3∧RI H3 (.slice (some ⟨b90,0,none⟩) 3 3) (ui l g)∧St H3 w (.blk b3 [.slice (some ⟨b13,0,none⟩) l.length l.length]:: .blk b13 (Is (sv l j)):: .blk b5 [I (g.at_:Int),I (g.n:Int)]:: .blk b4 [.func (.func 275) #[.pointer (some ⟨b3,0,none⟩)] #[]]:: .blk b1 [.slice a l.length c]::σf4)) ?_ ?_
   ·refine .ai (.z zm (.z zm (.z lk (.nil ?_))))
    refine (.bJ rfl (fun hc93=>?_) (fun hc93=>?_))
    ·refine .region (.z zm ?_)
     refine .o (.call Tryz.call128 rfl (kL (en:= .blk b90 (Is [(6:Int).tdiv T*(1+T)*M*T*(2 - T),(6:Int).tdiv T*(1+T)*M*(1+T)*(1+T),(6:Int).tdiv T*(1+T)*M*(2*T - 1)])) (hs.sub (by repeat (first|exact Sub.refl _|constructor|apply Sub.weaken)):St H2 w (.blk b90 _:: .blk b3 _:: .blk b13 _:: .blk b5 _:: .blk b4 _:: .blk b1 _::σf4)) (.full rfl) (by simp)) ?_);rintro _ w ⟨en95,hO95,hs⟩
     refine .nil ?_
     refine nT ?_
     obtain ⟨H3,hle3,r90,hs⟩:=cu.df hO95 (by simp) hs .here
     rw [if_pos hc93] at hgw
     rw [hgw]
     exact ⟨H3,by repeat (first|exact .nil rfl rfl|refine .cons rfl ?_),hle3,r90,hs⟩
    ·refine .skip ?_
     refine nT ?_
     obtain ⟨H3,hle3,r90,hs⟩:=cu.df (xs:=[(6:Int).tdiv T*(1+T)*M*T*(2 - T),(6:Int).tdiv T*(1+T)*M*(1+T)*(1+T),(6:Int).tdiv T*(1+T)*M*(2*T - 1)]) (v:= .slice (some ⟨b90,0,none⟩) 3 3) (.full (len:=3) rfl) (by simp) hs (by repeat constructor)
     rw [if_neg (by omega)] at hgw
     rw [hgw]
     exact ⟨H3,by repeat (first|exact .nil rfl rfl|refine .cons rfl ?_),hle3,r90,hs.sub (by repeat (first|exact Sub.refl _|constructor|apply Sub.weaken))⟩
   ·rintro fs w ⟨H3,hfs,hle3,r90,hs⟩
    refine WE.sub ?_ hfs
    refine .region ?_
    refine .y hs (zld Tryz.isAgg295) ?_
    refine .z (zfa fu) (.y hs (zld af) (.z zm ?_))
    refine .o (.p5 (first:=[.pointer (some ⟨b3,0,none⟩)]) (cap:=[]) rfl rfl Tryz.call275 (om (from_:=g.at_) (xs:=ui l g) hs hKl r90 (by rw [y8,show g.n=2 by unfold Grp.n;rw [h2];rfl];omega) (by omega) (by omega) (by omega)) ?_);rintro _ w hs
    rw [←hK] at hs
    refine .nil ?_
    refine nB ?_
    exact ⟨H3,_,hle3,(hs.sub (by repeat (first|exact Sub.refl _|constructor|apply Sub.weaken)):St H3 w (.blk b3 _:: .blk b13 _:: .blk b4 _:: .blk b1 _::σf4)),rfl⟩
 ·rintro D H2 σb2 w hle2 rfl hs
  rw [show (pU l).length=(lP l).length by simp [pU],yD] at hs
  replace hs:St H2 w (.obj D (.deferred (some [])):: .blk b3 [.slice (some ⟨b13,0,none⟩) l.length l.length]:: .blk b13 (Is (wts l)):: .blk b4 [.func (.func 275) #[.pointer (some ⟨b3,0,none⟩)] #[]]:: .blk b1 [.slice a l.length c]::σ):=hs
  refine nB (nT ?_)
  refine .ai (.z (zfa oq) (.y hs (zld ak) (.z zg (.nil ?_))))
  refine .ret ?_
  obtain ⟨H3,hle3,hR,hs⟩:=cu.df (xs:=wts l) (v:= .slice (some ⟨b13,0,none⟩) l.length l.length) (.full (by simp [Is,ed])) (by rw [ed];omega) hs (by repeat constructor)
  exact Fin.iG [D] [] hs fun w hs=>⟨_,results1 Tryz.results248 rfl,H3,hle1.trans (hle2.trans hle3),hR,hs.out⟩
def wz(X Y:List Int)(i:Nat):List Int:=(List.range Y.length).map fun k=>gi X i*gi Y k
def lQ(X Y:List Int)(i:Nat):List (List Int):=(List.range i).map (wz X Y)
theorem jm(X Y:List Int)(i:Nat):(wz X Y i).length=Y.length:=by simp [wz]
theorem jF(X Y:List Int)(i:Nat):(lQ X Y i).length=i:=by simp [lQ]
theorem uN(X Y:List Int)(i:Nat):lQ X Y (i+1)=lQ X Y i++[wz X Y i]:=by simp [lQ,List.range_succ]
theorem wR{X Y:List Int}{i k:Nat}(hk:k<Y.length):(wz X Y i).take (k+1)=(wz X Y i).take k++[gi X i*gi Y k]:=by
 rw [dK (by simp [wz,hk]:(wz X Y i)[k]? =some (gi X i*gi Y k))]
theorem vI{X Y:List Int}{n i:Nat}(h:i<n):gr (lQ X Y n) i=wz X Y i:=by simp [gr,List.getD,lQ,h]
theorem za{X Y:List Int}{n i k:Nat}(h:i<n)(hk:k<Y.length):gt (lQ X Y n) i k=gi X i*gi Y k:=by
 unfold gt;rw [vI h];simp [gi,List.getD,wz,hk]
inductive GrS(X Y:List Int)(b:Nat)(i k:Nat)(H:bn)(σ:List Ent):Prop
 |go (us:List Value) (v:Value) (en:Ent) (h:i<X.length) (h1:RLs H us (lQ X Y i)) (h2:cu 1 v (Is ((wz X Y i).take k)) en) (h3:σ=[.blk b (us++v::List.replicate (X.length - i - 1) (.slice none 0 0)),en])
 |fin (us:List Value) (h:i=X.length) (h1:RLs H us (lQ X Y i)) (h3:σ=[.blk b us])
theorem GrS.mono{X Y:List Int}{b i k:Nat}{H H':bn}{σ:List Ent}(h:GrS X Y b i k H σ)(hl:HLe H H'):GrS X Y b i k H' σ:=by
 cases h with
 |go us v en h h1 h2 h3=>exact .go us v en h (h1.mono hl) h2 h3
 |fin us h h1 h3=>exact .fin us h (h1.mono hl) h3
theorem kK{H:bn}{w:World}{σ:List Ent}{v:Value}{l:List Int}(hs:St H w σ)(hr:RI H v l):
  Cl Tryz.prog 273 [v] w fun u w'=>∃H1 vo e,HLe H H1∧u= .tuple #[vo,I e]∧(eu 9 100000 l→e=0∧RI H1 vo (wts l))∧St H1 w' σ:=by
 obtain ⟨a,c,rfl⟩:=RI.shape hr
 refine Cl.of Tryz.func273 rfl Tryz.ntmps273 (by simp) (aj (k:=0) rfl (bh)) ?_
 refine .ai (.z zg (.z zg (.nil (.seq (.ai (.z zm ?_))))))
 refine .o (.call Tryz.call294 rfl (mF hs hr) ?_);rintro _ w ⟨e,rfl,he,hs⟩
 refine .z zg (.nil (.ai (.z zm (.z iA (.nil ?_)))))
 refine (.e9 rfl (fun hc8=>?_) (fun hc8=>?_))
 ·refine .ai (.z zm (.z zg (.z zg (.nil ?_))))
  refine .ret (rT (Fin.lg Tryz.results273 rfl rfl ?_))
  exact ⟨H,_,_,HLe.refl H,rfl,fun h=>by rcases he with ⟨_,h2⟩|⟨h1,_⟩;exact (hc8 h2).elim;exact (h1 h).elim,hs⟩
 ·refine .skip ?_
  refine nT ?_
  refine .ai (.z zm ?_)
  have hp:eu 9 100000 l:=by rcases he with ⟨h,_⟩|⟨_,h2⟩;exact h;exact (h2 (by simpa using hc8)).elim
  refine .o (.call Tryz.call248 rfl (iJ hs hr hp) ?_);rintro v11 w ⟨H1,hle1,hR,hs⟩
  refine .z zg (.z zg (.nil ?_))
  refine .ret (Fin.lg Tryz.results273 rfl rfl ?_)
  exact ⟨H1,_,_,hle1,rfl,fun _=>⟨rfl,hR⟩,hs⟩
theorem qp{H:bn}{w:World}{σ:List Ent}{v1 v2:Value}{a b:List Int}(hs:St H w σ)(h1:RI H v1 a)(h2:RI H v2 b):
  Cl Tryz.prog 191 [v1,v2] w fun u w'=>∃bb:Bool,u= .bool bb∧(bb=true↔eu 9 100000 a∧eu 7 15000 b)∧St H w' σ:=by
 refine Cl.of Tryz.func191 rfl Tryz.ntmps191 (by simp) (aj (k:=0) rfl (aj (k:=1) rfl (bh))) ?_
 refine .ai (.z zg (.nil (.ai (.z zm ?_))))
 refine .o (.call Tryz.call247 rfl (gO (many:=9) (most:=100000) hs h1) ?_);rintro _ w ⟨b6,rfl,hb6,hs⟩
 refine .z zm ?_
 refine .bif (t':=7) rfl (fun hb7=>?_) (fun hb7=>?_)
 ·refine .gT rfl rfl ?_
  refine .z zm ?_
  refine .gT rfl rfl ?_
  refine .o (.call Tryz.call247 rfl (gO (many:=7) (most:=15000) hs h2) ?_);rintro _ w ⟨b9,rfl,hb9,hs⟩
  refine .z zpT (.z zg (.nil ?_))
  refine .ret (Fin.bI Tryz.results191 rfl ?_)
  exact ⟨_,rfl,by rw [hb9];exact ⟨fun h=>⟨hb6.1 hb7,h⟩,fun h=>h.2⟩,hs⟩
 ·refine .gFs 2 2 true rfl rfl rfl ?_
  refine .z zpF (.z zg (.nil ?_))
  refine .ret (Fin.bI Tryz.results191 rfl ?_)
  exact ⟨_,rfl,⟨fun h=>(by cases h),fun h=>by rw [hb6.2 h.1] at hb7;cases hb7⟩,hs⟩
theorem nS{H:bn}{w:World}{σ:List Ent}{bx by_:Nat}{x y:Int}(hs:St H w σ)(hx:Row H bx [I x])(hy:Row H by_ [I y]):
  Cl Tryz.prog 279 [.pointer (some ⟨bx,0,none⟩),.pointer (some ⟨by_,0,none⟩)] w fun u w'=>u= .tuple #[I x,I y]∧St H w' σ:=by
 have hx0:=hx.at 0
 have hy0:=hy.at 0
 refine Cl.of Tryz.func279 rfl Tryz.ntmps279 (by simp) (aj (k:=0) rfl (aj (k:=1) rfl (bh))) ?_
 refine .ai (.z zg (.z zg (.nil ?_)))
 refine .seq (.draw mix rfl hs ?_);intro w hs
 refine .y 0 rfl hs af ?_;refine .y 1 rfl hs af ?_;refine .z 2 rfl zg ?_;refine .z 3 rfl zg ?_;refine .done (by kernel_rfl) hs ?_
 refine .ret (Fin.lg Tryz.results279 rfl rfl ?_)
 exact ⟨rfl,hs⟩
def PrE(X Y:List Int)(p:Nat)(H:bn)(z:List Value):Prop:=
 ∃bx by_,z=[.agg #[I ((p/Y.length:Nat):Int),I ((p%Y.length:Nat):Int)],.func (.func 279) #[] #[.pointer (some ⟨bx,0,none⟩),.pointer (some ⟨by_,0,none⟩)]]∧Row H bx [I (gi X (p/Y.length))]∧Row H by_ [I (gi Y (p%Y.length))]
theorem pj{H:bn}{b1 b2:Nat}{v1 v2:Value}{X Y:List Int}(hb1:Row H b1 [v1])(hb2:Row H b2 [v2])(hX:RI H v1 X)(hY:RI H v2 Y)(hXl:X.length≤1000)(hYl:Y.length≤1000):
  C4 Tryz.prog 278 [.pointer (some ⟨b1,0,none⟩),.pointer (some ⟨b2,0,none⟩)] H (X.length*Y.length) (PrE X Y):=by
 intro ly II Ix hmI _ hy H0 σb0 σf w hle hI0 hs
 obtain ⟨a1,c1,rfl⟩:=RI.shape hX
 obtain ⟨a2,c2,rfl⟩:=RI.shape hY
 have h01:cellAt H0 b1 0=some (.slice a1 X.length c1):=cellAt.mono (hb1.at 0) hle
 have h02:cellAt H0 b2 0=some (.slice a2 Y.length c2):=cellAt.mono (hb2.at 0) hle
 refine Cl.of Tryz.func278 rfl Tryz.ntmps278 (by simp) (aj (k:=0) rfl (aj (k:=1) rfl (aj (k:=2) rfl (bh)))) ?_
 refine .ai (.y hs (zld ak) (.z (cM aa) (.z zm (.nil ?_))))
 refine .for (N:=X.length) (J:=fun i fr w=>fr=[(8,.slice a1 X.length c1),(0,.func (.yield ly) #[] #[]),(1,.pointer (some ⟨b1,0,none⟩)),(2,.pointer (some ⟨b2,0,none⟩))]∧∃H1 σb,HLe H H1∧HLe H0 H1∧II (i*Y.length) H1 σb∧St H1 w (σb++σf)) (by omega) ?_ ?_ ?_
 ·exact .mk ⟨rfl,H0,σb0,hle,HLe.refl _,by rw [Nat.zero_mul];exact hI0,hs⟩
 ·rintro i fr w hi ⟨rfl,H1,σb,hle1,hle0,hI,hs⟩
  refine .block (.ai (.z zm ?_))
  refine .ixY hs (hX.mono hle1) rfl rfl aa ae (br (l:=X) (i:=i) (by omega)) (by first|rfl|assumption|omega) ?_;intro b13 o13 hc13
  refine .q hs (aM rfl af hc13) ?_
  refine .o (.alloc hs bH rfl ?_);intro b5 w hs
  refine .z zg ?_
  refine .o (.store hs rfl rfl ae ?_);intro w hs
  refine .nil (.ai ?_)
  obtain ⟨H2,hle2,r5,hs⟩:=hs.cP (b:=b5) .here
  have h22:=cellAt.mono h02 (hle0.trans hle2)
  refine .y hs (zld ak) (.z (cM aa) (.z zm (.nil ?_)))
  refine .for (N:=Y.length) (J:=fun k fr w=>fr=[(15,.slice a2 Y.length c2),(4,I (i:Int)),(10,I (i:Int)),(9,I (X.length:Int)),(5,.pointer (some ⟨b5,0,none⟩)),(8,.slice a1 X.length c1),(0,.func (.yield ly) #[] #[]),(1,.pointer (some ⟨b1,0,none⟩)),(2,.pointer (some ⟨b2,0,none⟩))]∧∃H3 σb,HLe H2 H3∧II (i*Y.length+k) H3 σb∧St H3 w (σb++σf)) (by omega) ?_ ?_ ?_
  ·exact .mk ⟨rfl,H2,σb,HLe.refl _,hmI _ _ _ _ hle2 hI,hs⟩
  ·rintro k fr w hk ⟨rfl,H3,σb3,hle3,hI3,hs⟩
   have hle03:=hle0.trans (hle2.trans hle3)
   have hle13:=hle1.trans (hle2.trans hle3)
   refine .block (.ai (.z zm ?_))
   refine .ixY hs (hY.mono hle13) rfl rfl aa ae (br (l:=Y) (i:=k) (by omega)) (by first|rfl|assumption|omega) ?_;intro b20 o20 hc20
   refine .q hs (aM rfl af hc20) ?_
   refine .o (.alloc hs bH rfl ?_);intro b7 w hs
   refine .z zg ?_
   refine .o (.store hs rfl rfl ae ?_);intro w hs
   refine .nil (.ai (.z zm (.z zm (.z zm ?_))))
   refine .q hs (Cs (vs:=[(0,I (i:Int)),(1,I (k:Int))]) (cells:=[I (i:Int),I (k:Int)]) Tryz.zeroValue90 rfl jw ae rfl) ?_
   refine .q hs (dC (f:=[]) (c:=[_,_]) rfl rfl) ?_
   obtain ⟨H4,hle4,r7,hs⟩:=hs.cP (b:=b7) .here
   obtain ⟨d1,d2⟩:=DH (nw:=Y.length) (i:=i) (k:=k) hk
   have hlt:i*Y.length+k<X.length*Y.length:=by
    have:=Nat.mul_le_mul_right Y.length (show i+1≤X.length by omega)
    rw [Nat.add_mul,Nat.one_mul] at this;omega
   have hyd:=hy (i*Y.length+k) hlt [.agg #[I (i:Int),I (k:Int)],.func (.func 279) #[] #[.pointer (some ⟨b5,0,none⟩),.pointer (some ⟨b7,0,none⟩)]] H4 σb3 σf w (hle13.trans hle4) ⟨b5,b7,by rw [d1,d2],by rw [d1];exact r5.mono (hle3.trans hle4),by rw [d2];exact r7⟩ (hmI _ _ _ _ hle4 hI3) hs
   refine .o (.yield rfl rfl hyd ?_);rintro v27 w ⟨H5,σ5,g1,hs,g3⟩
   obtain ⟨bb,rfl,gT,gF⟩:=oA g3
   refine .z iI (.nil ?_)
   refine (.cond rfl (fun hc28=>?_) (fun hc28=>?_))
   ·refine .ret (rB (rT (rB (rB (rT (rB (Fin.ret0 Tryz.results278 ?_)))))))
    exact ⟨H5,σ5,hle03.trans (hle4.trans g1),hs,.inr (gF (by simpa using hc28))⟩
   ·refine .skip ?_
    refine nB (nT ?_)
    exact .mk ⟨rfl,H5,σ5,hle3.trans (hle4.trans g1),gT (by simpa using hc28),hs⟩
  ·rintro fr w ⟨rfl,H3,σb3,hle3,hI3,hs⟩
   refine nB (nT ?_)
   exact .mk ⟨rfl,H3,σb3,hle1.trans (hle2.trans hle3),hle0.trans (hle2.trans hle3),by rw [Nat.add_mul,Nat.one_mul];exact hI3,hs⟩
 ·rintro fr w ⟨rfl,H1,σb,hle1,hle0,hI,hs⟩
  exact Fin.xC Tryz.results278 ⟨H1,σb,hle0,hs,.inl hI⟩
theorem rA{H:bn}{w:World}{σ:List Ent}{v1 v2:Value}{X Y:List Int}(hs:St H w σ)(hX:RI H v1 X)(hY:RI H v2 Y)(hXl:X.length≤1000)(hYl:Y.length≤1000):
  Cl Tryz.prog 249 [v1,v2] w fun u w'=>∃H1 b1 b2,HLe H H1∧u= .func (.func 278) #[] #[.pointer (some ⟨b1,0,none⟩),.pointer (some ⟨b2,0,none⟩)]∧C4 Tryz.prog 278 [.pointer (some ⟨b1,0,none⟩),.pointer (some ⟨b2,0,none⟩)] H1 (X.length*Y.length) (PrE X Y)∧St H1 w' σ:=by
 obtain ⟨a1,c1,rfl⟩:=RI.shape hX
 obtain ⟨a2,c2,rfl⟩:=RI.shape hY
 refine Cl.of Tryz.func249 rfl Tryz.ntmps249 (by simp) (aj (k:=0) rfl (aj (k:=1) rfl (bh))) ?_
 refine .ai ?_
 refine .o (.box hs rfl rfl ?_);intro b2 w hs
 refine .o (.box hs rfl rfl ?_);intro b3 w hs
 refine .z zg (.nil (.ai ?_))
 refine .q hs (dC (f:=[]) (c:=[_,_]) rfl rfl) ?_
 refine .z zg (.nil ?_)
 refine .ret (Fin.bI Tryz.results249 rfl ?_)
 obtain ⟨H1,g1,r1,hs⟩:=hs.cP (b:=b2) (by repeat constructor)
 obtain ⟨H2,g2,r2,hs⟩:=hs.cP (b:=b3) (by repeat constructor)
 exact ⟨H2,b2,b3,g1.trans g2,rfl,pj (r1.mono g2) r2 (hX.mono (g1.trans g2)) (hY.mono (g1.trans g2)) hXl hYl,hs⟩
set_option maxHeartbeats 1000000 in
theorem sy{H:bn}{w:World}{σ:List Ent}{v1 v2:Value}{l1 l2:List Int}(hs:St H w σ)(hr1:RI H v1 l1)(hr2:RI H v2 l2)(hp1:eu 9 100000 l1)(hp2:eu 7 15000 l2):
  Cl Tryz.prog 192 [v1,v2] w fun u w'=>∃H1,HLe H H1∧RT H1 u (lQ (wts l1) (wts l2) l1.length)∧St H1 w' σ:=by
 obtain ⟨a1,c1,rfl⟩:=RI.shape hr1
 obtain ⟨a2,c2,rfl⟩:=RI.shape hr2
 have hn1:=hp1.many
 have hn2:=hp2.many
 have htw1:=hp1.two
 have htw2:=hp2.two
 have hp2':eu 9 100000 l2:=⟨hp2.two,by omega,hp2.low,by have:=hp2.high;omega,hp2.rise⟩
 have hXl:=ed l1
 have hYl:=ed l2
 have hXb:=yC hp1
 have hYb:=yC hp2
 refine Cl.of Tryz.func192 rfl Tryz.ntmps192 (by simp) (aj (k:=0) rfl (aj (k:=1) rfl (bh))) ?_
 refine .ai (.z zg (.nil (.ai (.z zm ?_))))
 refine .o (.call Tryz.call248 rfl (iJ hs hr1 hp1) ?_);rintro v13 w ⟨H1,hle1,hX,hs⟩
 refine .z zm ?_
 refine .o (.call Tryz.call248 rfl (iJ hs (hr2.mono hle1) hp2') ?_);rintro v15 w ⟨H2,hle2,hY,hs⟩
 replace hX:=hX.mono hle2
 generalize wts l1=X at*
 generalize wts l2=Y at*
 obtain ⟨aX,cX,rfl⟩:=RI.shape hX
 obtain ⟨aY,cY,rfl⟩:=RI.shape hY
 refine .z zg (.z zg (.nil (.ai (.z zm (.z (cM aa) ?_)))))
 refine .o (.DY l1.length hs rfl rfl an tD rfl aA dz (by omega) ?_);intro b18 w hs
 refine .o (.alloc hs Tryz.zeroValue61 rfl ?_);intro b7 w hs
 refine .o (.store hs rfl rfl Es ?_);intro w hs
 refine .nil (.seq (.ai (.z zm (.z zm ?_))))
 refine .o (.call Tryz.call249 rfl (rA hs hX hY (by omega) (by omega)) ?_);rintro _ w ⟨H3,bp1,bp2,hle3,rfl,hit,hs⟩
 have hle03:=hle1.trans (hle2.trans hle3)
 have h0:GrS X Y b18 0 0 H3 [.blk b18 (List.replicate l1.length (.slice none 0 0)),.nul]:=by
  refine .go [] (.slice none 0 0) .nul (by omega) (RLs.nil _) (.nil 1 none) ?_
  rw [hXl]
  obtain ⟨m,hm⟩:∃m,l1.length=m+1:=⟨l1.length - 1,by omega⟩
  rw [hm]
  rfl
 refine .nil (.block ?_)
 refine .De (gf:=278) (cap:=[.pointer (some ⟨bp1,0,none⟩),.pointer (some ⟨bp2,0,none⟩)]) (N:=X.length*Y.length) (E:=PrE X Y) (σb:= .blk b7 [.slice (some ⟨b18,0,none⟩) l1.length l1.length]::[.blk b18 (List.replicate l1.length (.slice none 0 0)),.nul]) (σf:=σ) (hs.nul.sub (by repeat (first|exact Sub.refl _|constructor|apply Sub.weaken))) trivial rfl hit Tryz.call278 (fun k H' z ⟨_,_,hz,_⟩=>by rw [hz];rfl) rfl
  (I:=fun p H' σb=>∃σ1,σb= .blk b7 [.slice (some ⟨b18,0,none⟩) l1.length l1.length]::σ1∧GrS X Y b18 (p/Y.length) (p%Y.length) H' σ1) (Ix:=fun _ _ _=>False)
  (fun j _ _ σ g1 ⟨σ1,g2,g3⟩=>⟨σ1,g2,g3.mono g1⟩) (fun _ _ _ _ _ h=>h) ⟨_,rfl,by rw [Nat.zero_div,Nat.zero_mod];exact h0⟩ ?_ ?_ (fun D c H' σb w _ h _=>h.elim)
 ·rintro ly p hp z H4 σb2 σf2 w hle4 ⟨bx,by_,rfl,rx,ry⟩ ⟨σ1,rfl,hG⟩ hs ⟨rr,hrr⟩
  have hnext:=yU (p:=p) (m:=Y.length) (by omega)
  have hkm:=Nat.mod_lt p (show 0<Y.length by omega)
  have hin:p/Y.length<X.length:=Nat.div_lt_of_lt_mul (by rw [Nat.mul_comm];exact hp)
  generalize hi:p/Y.length=i at*
  generalize hk:p%Y.length=k at*
  cases hG with
  |fin us h=>omega
  |go us v en h h1 h2 h3=>
  subst h3
  obtain ⟨av,lv,cv,rfl,hlv⟩:=h2.shape
  have husl:us.length=i:=by rw [h1.1,jF]
  have hb1:=hXb i
  have hb2:=hYb k
  have hpr:=Dm (gi X i) (gi Y k)
  have hprb: -3456000000000≤gi X i*gi Y k∧gi X i*gi Y k≤3456000000000:=kS (A:=4800000) (B:=720000) (by unfold ab at hb1;omega) (by unfold ab at hb2;omega)
  refine .ai ?_
  refine .o (.alloc hs Tryz.zeroValue90 rfl ?_);intro b8 w hs
  refine .o (.aS (vs:=[_,_]) hs rfl rfl Tryz.sizeOf90 ?_);intro w hs
  refine .nil (.region (.z zg (.nil ?_)))
  refine nT ?_
  refine ⟨H4,[.blk b8 [I (i:Int),I (k:Int)],.blk b7 [.slice (some ⟨b18,0,none⟩) l1.length l1.length],.blk b18 (us++Value.slice av lv cv::List.replicate (X.length - i - 1) (Value.slice none 0 0)),en],HLe.refl _,hs,?_⟩;rintro w σf4 - hs
  refine .block (.ai (.z zm ?_))
  refine .o (.p5 (first:=[]) (cap:=[.pointer (some ⟨bx,0,none⟩),.pointer (some ⟨by_,0,none⟩)]) rfl rfl Tryz.call279 (nS hs rx ry) ?_);rintro _ w ⟨rfl,hs⟩
  refine .z zm (.z zex (.z zex (.z zg (.z zg (.nil ?_)))))
  refine .draw mix rfl hs ?_;intro w hs
  refine .y 0 rfl hs pb ?_
  first|refine .p (i:=1) rfl (by kernel_rfl) .none (dI (k:=0) rfl rfl jw ae rfl (by decide)) ?_|refine .p (i:=1) rfl (by kernel_rfl) .none (fb (k:=0) rfl rfl jw ae rfl (by decide)) ?_
  refine .y 2 rfl hs af ?_;refine .y 3 rfl hs pb ?_
  first|refine .p (i:=4) rfl (by kernel_rfl) .none (dI (k:=0) rfl rfl jw ae rfl (by decide)) ?_|refine .p (i:=4) rfl (by kernel_rfl) .none (fb (k:=0) rfl rfl jw ae rfl (by decide)) ?_
  refine .y 5 rfl hs af ?_
  refine .p (i:=6) rfl (by kernel_rfl) .none (dF (k:=i) rfl rfl an aA rfl (by omega)) ?_
  refine .load (i:=7) hs rfl (by kernel_rfl) .none rfl ak ?_ (hv:=by rw [List.getElem?_append_right (by omega),husl,Nat.sub_self];rfl)
  refine .z 8 rfl zm ?_;refine .z 9 rfl zm ?_;refine .z 10 rfl j7 ?_
  refine .e1 (i:=11) (by kernel_rfl) rfl rfl .none hs ?_
  refine .buildSlice (cells:=[_]) hs cV rfl rfl ?_;intro b40 w hs
  refine .go ?_
  refine .e1 (i:=12) (by kernel_rfl) rfl rfl .none hs ?_
  refine .append (ys:=Is [gi X i*gi Y k]) hs bP rfl rfl h2 (.own .here rfl rfl) (fL _) (fun l' h=>by simp at h;omega) ?_;intro v41 en41 w hO hs
  rw [show Is ((wz X Y i).take k)++Is [gi X i*gi Y k]=Is ((wz X Y i).take (k+1)) by rw [wR hkm];simp [Is]] at hO
  obtain ⟨a41,l41,c41,rfl,hl41⟩:=hO.shape
  refine .go ?_
  refine .p (i:=13) rfl (by kernel_rfl) .none (dF (k:=i) rfl rfl an aA rfl (by omega)) ?_
  refine .e1 (i:=14) (by kernel_rfl) rfl rfl .none hs ?_
  refine .store (c':=us++ .slice a41 l41 c41::List.replicate (X.length - i - 1) (.slice none 0 0)) hs rfl rfl aA ?_ (by repeat constructor) (by simp;omega) (by rw [List.set_append_right _ _ (by omega),husl,Nat.sub_self];rfl);intro w hs
  refine .go ?_
  refine .done (by kernel_rfl) hs ?_
  refine nB ?_
  rcases hnext with ⟨g1,g2,g3⟩|⟨g1,g2,g3⟩
  ·exact ⟨H4,[.blk b7 [.slice (some ⟨b18,0,none⟩) l1.length l1.length],.blk b18 (us++ .slice a41 l41 c41::List.replicate (X.length - i - 1) (.slice none 0 0)),en41],HLe.refl _,(hs.sub (by repeat (first|exact Sub.refl _|constructor|apply Sub.weaken)):St H4 w (.blk b7 _:: .blk b18 _::en41::σf4)),_,rfl,by rw [g2,g3];exact .go us _ en41 h h1 hO rfl⟩
  ·obtain ⟨H5,hle5,hR,hs⟩:=cu.df hO (by rw [List.length_take,jm];omega) hs (by repeat constructor)
   rw [List.take_of_length_le (by rw [jm];omega)] at hR
   have h1':RLs H5 (us++[.slice a41 l41 c41]) (lQ X Y (i+1)):=by rw [uN];exact (h1.mono hle5).snoc hR
   by_cases e:i+1<X.length
   ·refine ⟨H5,[.blk b7 [.slice (some ⟨b18,0,none⟩) l1.length l1.length],.blk b18 (us++ .slice a41 l41 c41::List.replicate (X.length - i - 1) (.slice none 0 0)),.nul],hle5,(hs.nul.sub (by repeat (first|exact Sub.refl _|constructor|apply Sub.weaken)):St H5 w (.blk b7 _:: .blk b18 _:: .nul::σf4)),_,rfl,?_⟩
    rw [g2,g3]
    refine .go (us++[.slice a41 l41 c41]) (.slice none 0 0) .nul e h1' (.nil 1 none) ?_
    obtain ⟨m,hm⟩:∃m,X.length - i - 1=m+1:=⟨X.length - i - 2,by omega⟩
    rw [hm,show X.length - (i+1) - 1=m by omega,List.append_assoc]
    rfl
   ·refine ⟨H5,[.blk b7 [.slice (some ⟨b18,0,none⟩) l1.length l1.length],.blk b18 (us++ .slice a41 l41 c41::List.replicate (X.length - i - 1) (.slice none 0 0))],hle5,(hs.sub (by repeat (first|exact Sub.refl _|constructor|apply Sub.weaken)):St H5 w (.blk b7 _:: .blk b18 _::σf4)),_,rfl,?_⟩
    rw [g2,g3]
    refine .fin (us++[.slice a41 l41 c41]) (by omega) h1' ?_
    rw [show X.length - i - 1=0 by omega]
    rfl
 ·rintro D H4 σb2 w hle4 ⟨σ1,rfl,hG⟩ hs
  rw [Nat.mul_div_cancel _ (by omega),Nat.mul_mod_left] at hG
  cases hG with
  |go us v en h=>omega
  |fin us h h1 h3=>
  subst h3
  replace hs:St H4 w (.obj D (.deferred (some [])):: .blk b7 [.slice (some ⟨b18,0,none⟩) l1.length l1.length]:: .blk b18 us::σ):=hs
  have husl:us.length=l1.length:=by rw [h1.1,jF,hXl]
  refine nB (nT ?_)
  refine .ai (.y hs (zld pb) (.z zg (.nil ?_)))
  refine .ret ?_
  obtain ⟨H5,hle5,hR,hs⟩:=h1.cP (v:= .slice (some ⟨b18,0,none⟩) l1.length l1.length) (en:= .blk b18 us) (.full (by simp [husl])) (by omega) hs (by repeat constructor)
  rw [hXl] at hR
  exact Fin.iG [D] [] hs fun w hs=>⟨_,results1 Tryz.results192 rfl,H5,hle03.trans (hle4.trans hle5),hR,hs.out⟩
theorem mW{H:bn}{w:World}{σ:List Ent}{v1 v2:Value}{l1 l2:List Int}(hs:St H w σ)(hr1:RI H v1 l1)(hr2:RI H v2 l2):
  Cl Tryz.prog 104 [v1,v2] w fun u w'=>∃H1 vo e,HLe H H1∧u= .tuple #[vo,I e]∧(eu 9 100000 l1∧eu 7 15000 l2→e=0∧RT H1 vo (lQ (wts l1) (wts l2) l1.length))∧(e=0→eu 9 100000 l1∧eu 7 15000 l2)∧St H1 w' σ:=by
 refine Cl.of Tryz.func104 rfl Tryz.ntmps104 (by simp) (aj (k:=0) rfl (aj (k:=1) rfl (bh))) ?_
 refine .ai (.z zg (.z zg (.nil (.seq (.ai (.z zm (.z zm ?_)))))))
 refine .o (.call Tryz.call191 rfl (qp hs hr1 hr2) ?_);rintro _ w ⟨b8,rfl,hb8,hs⟩
 refine .z iI (.nil ?_)
 refine (.cond rfl (fun hc9=>?_) (fun hc9=>?_))
 ·refine .ai (.z zg (.z zg (.nil ?_)))
  refine .ret (rT (Fin.lg Tryz.results104 rfl rfl ?_))
  exact ⟨H,_,_,HLe.refl H,rfl,fun h=>(by rw [hb8.2 h] at hc9;cases hc9),fun h=>(by omega),hs⟩
 ·refine .skip ?_
  refine nT ?_
  refine .ai (.z zm (.z zm ?_))
  have hp:=hb8.1 (by simpa using hc9)
  refine .o (.call Tryz.call192 rfl (sy hs hr1 hr2 hp.1 hp.2) ?_);rintro v12 w ⟨H1,hle1,hR,hs⟩
  refine .z zg (.z zg (.nil ?_))
  refine .ret (Fin.lg Tryz.results104 rfl rfl ?_)
  exact ⟨H1,_,_,hle1,rfl,fun _=>⟨rfl,hR⟩,fun _=>hp,hs⟩
theorem plc_of{many:Nat}{most:Int}{l:List Int}(h2:2≤l.length)(hm:l.length≤many)(h:∀j<l.length,0≤gi l j∧gi l j≤most∧(0<j→gi l (j - 1)<gi l j)):eu many most l:=
 ⟨h2,hm,(h 0 (by omega)).1,(h (l.length - 1) (by omega)).2.1,fun i hi=>by have:=(h (i+1) hi).2.2 (by omega);rwa [Nat.add_sub_cancel] at this⟩
theorem qY{many:Nat}{most:Int}{l:List Int}(h:eu many most l){j:Nat}(hj:j<l.length):0≤gi l j∧gi l j≤most∧(0<j→gi l (j - 1)<gi l j):=
 ⟨(h.bd hj).1,(h.bd hj).2,fun h0=>by have:=h.rise (j - 1) (by omega);rwa [Nat.sub_add_cancel h0] at this⟩
theorem jo{H:bn}{w:World}{σ:List Ent}{v:Value}{l:List Int}{many:Nat}{most:Int}(hs:St H w σ)(hr:RI H v l)(hmany:many≤1000):
  Cl Tryz.prog 168 [v,I many,I most] w fun u w'=>∃b:Bool,u= .bool b∧(b=true↔eu many most l)∧St H w' σ:=by
 obtain ⟨a,c,rfl⟩:=RI.shape hr
 have hlen:=(RI.len hr).2.2
 refine Cl.of Tryz.func168 rfl Tryz.ntmps168 (by simp) (aj (k:=0) rfl (aj (k:=1) rfl (aj (k:=2) rfl (bh)))) ?_
 refine .ai (.z zg (.nil (.seq (.ai (.z zm (.z (cM aa) (.z fN (.z zm ?_))))))))
 refine .iE (t':=11) rfl (fun hb11=>?_) (fun hb11=>?_)
 ·refine .gFs 4 3 false rfl rfl rfl ?_
  refine .z zpT (.nil ?_)
  refine (.fj rfl (by first|rfl|exact decide_eq_true (by assumption)) ?_)
  refine .ai (.z zg (.nil ?_))
  refine .ret (rT (Fin.bI kD rfl ?_))
  exact ⟨false,rfl,⟨fun h=>(by cases h),fun h=>by have:=h.two;omega⟩,hs⟩
 ·refine .gT rfl rfl ?_
  refine .z zm ?_
  refine .gT rfl rfl ?_
  refine .z (cM aa) ?_
  refine .gT rfl rfl ?_
  refine .z zm ?_
  refine .gT rfl rfl ?_
  refine .z lk (.z zpF (.nil ?_))
  refine (.bJ rfl (fun hc16=>?_) (fun hc16=>?_))
  ·refine .ai (.z zg (.nil ?_))
   refine .ret (rT (Fin.bI kD rfl ?_))
   exact ⟨false,rfl,⟨fun h=>(by cases h),fun h=>by have:=h.many;omega⟩,hs⟩
  ·refine .skip ?_
   refine nT ?_
   refine .seq (.ai (.z zg (.nil (.block ?_))))
   refine .loop (fun k:Nat=>⟨52,[],[(7,I (k:Int)),(0,.slice a l.length c),(1,I (many:Int)),(2,I most)]⟩)
    (fun k w=>k≤l.length∧(∀j<k,0≤gi l j∧gi l j≤most∧(0<j→gi l (j - 1)<gi l j))∧St H w σ) (fun k=>l.length - k) 0 (.cq rfl (by simp) (by repeat (first|exact .nil rfl rfl|refine .cons rfl ?_)))
    ⟨Nat.zero_le _,fun j hj=>by omega,hs⟩ ?_
   rintro k w ⟨hk,hno,hs⟩
   refine .seq (.ai (.z zm (.z zm (.z (cM aa) (.z fN (.nil ?_))))))
   refine (.bJ rfl (fun hc20=>?_) (fun hc20=>?_))
   ·refine .skip ?_
    refine nT ?_
    refine .seq (.block ?_)
    refine .seq (.draw mix rfl hs ?_);intro w hs
    refine .z 0 rfl zm ?_;refine .z 1 rfl zm ?_
    refine .ixX (enc:=fun x=>[I x]) (i:=2) hs rfl (by kernel_rfl) .none hr rfl rfl aa ae (br (l:=l) (i:=k) (by omega)) (by first|rfl|assumption|omega) ?_;intro b25 o25 hc25;replace hc25:=bG.one hc25
    refine .r (i:=3) hs rfl (by kernel_rfl) .none (aM rfl af hc25) ?_
    refine .z 4 rfl fN ?_;refine .z 5 rfl zm ?_
    refine .iE (t':=28) rfl (fun hb28=>?_) (fun hb28=>?_)
    ·refine .qF (i:=6) rfl (by kernel_rfl) rfl rfl ?_
     refine .qF (i:=7) rfl (by kernel_rfl) rfl rfl ?_
     refine .qF (i:=8) rfl (by kernel_rfl) rfl rfl ?_
     refine .qF (i:=9) rfl (by kernel_rfl) rfl rfl ?_
     refine .qF (i:=10) rfl (by kernel_rfl) rfl rfl ?_
     refine .qF (i:=11) rfl (by kernel_rfl) rfl rfl ?_
     refine .z 12 rfl zpT ?_;refine .z 13 rfl zm ?_
     refine .qF (i:=14) rfl (by kernel_rfl) rfl rfl ?_
     refine .qF (i:=15) rfl (by kernel_rfl) rfl rfl ?_
     refine .qF (i:=16) rfl (by kernel_rfl) rfl rfl ?_
     refine .qF (i:=17) rfl (by kernel_rfl) rfl rfl ?_
     refine .qF (i:=18) rfl (by kernel_rfl) rfl rfl ?_
     refine .qF (i:=19) rfl (by kernel_rfl) rfl rfl ?_
     refine .qF (i:=20) rfl (by kernel_rfl) rfl rfl ?_
     refine .qF (i:=21) rfl (by kernel_rfl) rfl rfl ?_
     refine .qF (i:=22) rfl (by kernel_rfl) rfl rfl ?_
     refine .qF (i:=23) rfl (by kernel_rfl) rfl rfl ?_
     refine .qF (i:=24) rfl (by kernel_rfl) rfl rfl ?_
     refine .qF (i:=25) rfl (by kernel_rfl) rfl rfl ?_
     refine .qF (i:=26) rfl (by kernel_rfl) rfl rfl ?_
     refine .qF (i:=27) rfl (by kernel_rfl) rfl rfl ?_
     refine .z 28 rfl zpT ?_;refine .done (by kernel_rfl) hs ?_
     refine (.fj rfl (by first|rfl|exact decide_eq_true (by assumption)) ?_)
     refine .ai (.z zg (.nil ?_))
     refine .ret (rB (rT (rT (rB (rT (Fin.bI kD rfl ?_))))))
     exact ⟨false,rfl,⟨fun h=>(by cases h),fun h=>by have:=qY h (j:=k) (by omega);omega⟩,hs⟩
    ·refine .z 6 rfl zm ?_;refine .z 7 rfl zm ?_
     refine .ixX (enc:=fun x=>[I x]) (i:=8) hs rfl (by kernel_rfl) (.some rfl rfl) hr rfl rfl aa ae (br (l:=l) (i:=k) (by omega)) (by first|rfl|assumption|omega) ?_;intro b31 o31 hc31;replace hc31:=bG.one hc31
     refine .r (i:=9) hs rfl (by kernel_rfl) (.some rfl rfl) (aM rfl af hc31) ?_
     refine .z 10 rfl zm ?_;refine .z 11 rfl lk ?_;refine .z 12 rfl zpF ?_;refine .z 13 rfl zm ?_
     refine .iE (t':=36) rfl (fun hb36=>?_) (fun hb36=>?_)
     ·refine .qF (i:=14) rfl (by kernel_rfl) rfl rfl ?_
      refine .qF (i:=15) rfl (by kernel_rfl) rfl rfl ?_
      refine .qF (i:=16) rfl (by kernel_rfl) rfl rfl ?_
      refine .qF (i:=17) rfl (by kernel_rfl) rfl rfl ?_
      refine .qF (i:=18) rfl (by kernel_rfl) rfl rfl ?_
      refine .qF (i:=19) rfl (by kernel_rfl) rfl rfl ?_
      refine .qF (i:=20) rfl (by kernel_rfl) rfl rfl ?_
      refine .qF (i:=21) rfl (by kernel_rfl) rfl rfl ?_
      refine .qF (i:=22) rfl (by kernel_rfl) rfl rfl ?_
      refine .qF (i:=23) rfl (by kernel_rfl) rfl rfl ?_
      refine .qF (i:=24) rfl (by kernel_rfl) rfl rfl ?_
      refine .qF (i:=25) rfl (by kernel_rfl) rfl rfl ?_
      refine .qF (i:=26) rfl (by kernel_rfl) rfl rfl ?_
      refine .qF (i:=27) rfl (by kernel_rfl) rfl rfl ?_
      refine .z 28 rfl zpT ?_;refine .done (by kernel_rfl) hs ?_
      refine (.fj rfl (by first|rfl|exact decide_eq_true (by assumption)) ?_)
      refine .ai (.z zg (.nil ?_))
      refine .ret (rB (rT (rT (rB (rT (Fin.bI kD rfl ?_))))))
      exact ⟨false,rfl,⟨fun h=>(by cases h),fun h=>by have:=qY h (j:=k) (by omega);omega⟩,hs⟩
     ·refine .z 14 rfl zm ?_;refine .z 15 rfl lk ?_;refine .z 16 rfl zm ?_
      refine .iE (t':=39) rfl (fun hb39=>?_) (fun hb39=>?_)
      ·refine .z 17 rfl zm ?_;refine .z 18 rfl zm ?_;refine .z 19 rfl gM ?_
       refine .ixX (enc:=fun x=>[I x]) (i:=20) hs rfl (by kernel_rfl) (.some rfl rfl) hr rfl rfl aa ae (br (l:=l) (i:=(k-1)) (by omega)) (by first|rfl|assumption|omega) ?_;intro b43 o43 hc43;replace hc43:=bG.one hc43
       refine .r (i:=21) hs rfl (by kernel_rfl) (.some rfl rfl) (aM rfl af hc43) ?_
       refine .z 22 rfl zm ?_;refine .z 23 rfl zm ?_
       refine .ixX (enc:=fun x=>[I x]) (i:=24) hs rfl (by kernel_rfl) (.some rfl rfl) hr rfl rfl aa ae (br (l:=l) (i:=k) (by omega)) (by first|rfl|assumption|omega) ?_;intro b47 o47 hc47;replace hc47:=bG.one hc47
       refine .r (i:=25) hs rfl (by kernel_rfl) (.some rfl rfl) (aM rfl af hc47) ?_
       refine .z 26 rfl wI ?_;refine .z 27 rfl zpT ?_;refine .z 28 rfl zpF ?_;refine .done (by kernel_rfl) hs ?_
       refine (.bJ rfl (fun hc51=>?_) (fun hc51=>?_))
       ·refine .ai (.z zg (.nil ?_))
        refine .ret (rB (rT (rT (rB (rT (Fin.bI kD rfl ?_))))))
        exact ⟨false,rfl,⟨fun h=>(by cases h),fun h=>by have:=qY h (j:=k) (by omega);omega⟩,hs⟩
       ·refine .skip ?_
        refine nB (nT ?_)
        refine .region (.z zm (.z cA (.z zg (.nil ?_))))
        refine nT ?_
        exact ⟨k+1,.cq rfl (by simp) (by repeat (first|exact .nil rfl rfl|refine .cons rfl ?_)),⟨by omega,fun j hj=>by
         by_cases e:j=k
         ·subst e;exact ⟨by omega,by omega,fun _=>by omega⟩
         ·exact hno j (by omega),hs⟩,by omega⟩
      ·refine .qF (i:=17) rfl (by kernel_rfl) rfl rfl ?_
       refine .qF (i:=18) rfl (by kernel_rfl) rfl rfl ?_
       refine .qF (i:=19) rfl (by kernel_rfl) rfl rfl ?_
       refine .qF (i:=20) rfl (by kernel_rfl) rfl rfl ?_
       refine .qF (i:=21) rfl (by kernel_rfl) rfl rfl ?_
       refine .qF (i:=22) rfl (by kernel_rfl) rfl rfl ?_
       refine .qF (i:=23) rfl (by kernel_rfl) rfl rfl ?_
       refine .qF (i:=24) rfl (by kernel_rfl) rfl rfl ?_
       refine .qF (i:=25) rfl (by kernel_rfl) rfl rfl ?_
       refine .qF (i:=26) rfl (by kernel_rfl) rfl rfl ?_
       refine .z 27 rfl zpF ?_;refine .z 28 rfl zpF ?_;refine .done (by kernel_rfl) hs ?_
       refine (.mj rfl (by first|rfl|exact decide_eq_false (by assumption)) ?_)
       refine .skip ?_
       refine nB (nT ?_)
       refine .region (.z zm (.z cA (.z zg (.nil ?_))))
       refine nT ?_
       exact ⟨k+1,.cq rfl (by simp) (by repeat (first|exact .nil rfl rfl|refine .cons rfl ?_)),⟨by omega,fun j hj=>by
        by_cases e:j=k
        ·subst e;exact ⟨by omega,by omega,fun _=>by omega⟩
        ·exact hno j (by omega),hs⟩,by omega⟩
   ·refine .exit ?_
    refine xT (xT (xB (nT ?_)))
    refine .ai (.z zg (.nil ?_))
    refine .ret (Fin.bI kD rfl ?_)
    exact ⟨true,rfl,⟨fun _=>plc_of (by omega) (by omega) fun j hj=>hno j (by omega),fun _=>rfl⟩,hs⟩
theorem gp{H:bn}{w:World}{σ:List Ent}{v:Value}{l:List Int}(hs:St H w σ)(hr:RI H v l):
  Cl Tryz.prog 84 [v] w fun u w'=>∃e,u=I e∧((eu 9 100000 l∧e=0)∨(¬eu 9 100000 l∧e≠0))∧St H w' σ:=by
 refine Cl.of Tryz.func84 rfl Tryz.ntmps84 (by simp) (aj (k:=0) rfl (bh)) ?_
 refine .ai (.z zg (.nil (.seq (.ai (.z zm ?_)))))
 refine .o (.call Tryz.call168 rfl (jo (many:=9) (most:=100000) hs hr (by omega)) ?_);rintro _ w ⟨b4,rfl,hb4,hs⟩
 refine .z iI (.nil ?_)
 refine (.cond rfl (fun hc5=>?_) (fun hc5=>?_))
 ·refine .ai (.z zg (.nil ?_))
  refine .ret (rT (Fin.bI Tryz.results84 rfl ?_))
  exact ⟨_,rfl,.inr ⟨fun h=>by simp [hb4.2 h] at hc5,by decide⟩,hs⟩
 ·refine .skip ?_
  refine nT ?_
  refine .ai (.z zg (.nil ?_))
  refine .ret (Fin.bI Tryz.results84 rfl ?_)
  exact ⟨_,rfl,.inl ⟨hb4.1 (by simpa using hc5),rfl⟩,hs⟩
theorem C9{a b k:Int}(hk:1≤k∧k≤3)(h:a*k=b∨b*k=a)(hno:∀j:Int,1≤j→j<k→¬(a*j=b∨b*j=a)):tms a b=k:=by
 have h3:k=1∨k=2∨k=3:=by omega
 unfold tms
 rcases h3 with rfl|rfl|rfl
 ·rw [if_pos (by omega)]
 ·have:=hno 1 (by omega) (by omega)
  rw [if_neg (by omega),if_pos h]
 ·have:=hno 1 (by omega) (by omega)
  have:=hno 2 (by omega) (by omega)
  rw [if_neg (by omega),if_neg this,if_pos h]
theorem tms_no{a b:Int}(hno:∀j:Int,1≤j→j<4→¬(a*j=b∨b*j=a)):tms a b=0:=by
 have:=hno 1 (by omega) (by omega)
 have h2:=hno 2 (by omega) (by omega)
 have h3:=hno 3 (by omega) (by omega)
 unfold tms
 rw [if_neg (by omega),if_neg h2,if_neg h3]
theorem my{H:bn}{w:World}{σ:List Ent}{a b:Int}(hs:St H w σ)(ha:0≤a∧a≤100000)(hb:0≤b∧b≤100000):
  Cl Tryz.prog 281 [I a,I b] w fun u w'=>u=I (tms a b)∧St H w' σ:=by
 refine Cl.of Tryz.func281 rfl Tryz.ntmps281 (by simp) (aj (k:=0) rfl (aj (k:=1) rfl (bh))) ?_
 refine .ai (.z zg (.nil (.seq (.ai (.z zg (.nil (.block ?_)))))))
 refine .loop (fun k:Nat=>⟨23,[],[(5,I (k:Int)),(0,I a),(1,I b)]⟩)
  (fun k w=>1≤k∧k≤4∧(∀j:Int,1≤j→j<k→¬(a*j=b∨b*j=a))∧St H w σ) (fun k=>4 - k) 1 (.cq rfl (by simp) (by repeat (first|exact .nil rfl rfl|refine .cons rfl ?_)))
  ⟨by omega,by omega,fun j h1 h2=>by omega,hs⟩ ?_
 rintro k w ⟨hk1,hk4,hno,hs⟩
 have hba:=kS (a:=a) (b:=(k:Int)) (A:=100000) (B:=4) (by omega) (by omega)
 have hbb:=kS (a:=b) (b:=(k:Int)) (A:=100000) (B:=4) (by omega) (by omega)
 refine .seq (.ai (.z zm (.z wH (.nil ?_))))
 refine (.bJ rfl (fun hc7=>?_) (fun hc7=>?_))
 ·refine .skip ?_
  refine nT ?_
  refine .seq (.block (.ai (.z zm (.z zm (.z j7 (.z zm (.z fA (.z zm ?_))))))))
  refine .iE (t':=15) rfl (fun hb15=>?_) (fun hb15=>?_)
  ·refine .gFs 5 5 false rfl rfl rfl ?_
   refine .z zpT (.nil ?_)
   refine (.fj rfl (by first|rfl|exact decide_eq_true (by assumption)) ?_)
   refine .ai (.z zm (.z zg (.nil ?_)))
   refine .ret (rB (rT (rT (rB (rT (Fin.bI BH rfl ?_))))))
   exact ⟨by rw [C9 ⟨by omega,by omega⟩ (.inl hb15) hno],hs⟩
  ·refine .gT rfl rfl ?_
   refine .z zm ?_
   refine .gT rfl rfl ?_
   refine .z zm ?_
   refine .gT rfl rfl ?_
   refine .z j7 ?_
   refine .gT rfl rfl ?_
   refine .z zm ?_
   refine .gT rfl rfl ?_
   refine .z fA (.z zpF (.nil ?_))
   refine (.bJ rfl (fun hc21=>?_) (fun hc21=>?_))
   ·refine .ai (.z zm (.z zg (.nil ?_)))
    refine .ret (rB (rT (rT (rB (rT (Fin.bI BH rfl ?_))))))
    exact ⟨by rw [C9 ⟨by omega,by omega⟩ (.inr hc21) hno],hs⟩
   ·refine .skip ?_
    refine nB (nT ?_)
    refine .region (.z zm (.z cA (.z zg (.nil ?_))))
    refine nT ?_
    exact ⟨k+1,.cq rfl (by simp) (by repeat (first|exact .nil rfl rfl|refine .cons rfl ?_)),⟨by omega,by omega,fun j h1 h2=>by
     by_cases e:j=(k:Int)
     ·subst e;omega
     ·exact hno j h1 (by omega),hs⟩,by omega⟩
 ·refine .exit ?_
  refine xT (xT (xB (nT ?_)))
  refine .ai (.z zg (.nil ?_))
  refine .ret (Fin.bI BH rfl ?_)
  obtain rfl:k=4:=by omega
  exact ⟨by rw [tms_no hno],hs⟩
def Grp.c(g:Grp):List Value:=[I (g.at_:Int),I (g.n:Int)]
def C5(l:List Grp):List Value:=(l.map Grp.c).flatten
theorem yA(a b:List Grp):C5 (a++b)=C5 a++C5 b:=by simp [C5]
theorem tt:∀l:List Grp,(C5 l).length=l.length*2
 |[]=>rfl
 |g::l=>by have:=tt l;simp only [C5,List.map_cons,List.flatten_cons,List.length_append,List.length_cons] at this ⊢;rw [this];simp [Grp.c];omega
set_option maxHeartbeats 1000000 in
theorem qD{H:bn}{w:World}{σ:List Ent}{v:Value}{l:List Int}(hs:St H w σ)(hr:RI H v l)(hp:eu 9 100000 l):
  Cl Tryz.prog 280 [v] w fun u w'=>∃H1,HLe H H1∧RS H1 2 u ((lP l).map Grp.c)∧St H1 w' σ:=by
 obtain ⟨a,c,rfl⟩:=RI.shape hr
 have hlen:=hp.many
 have hgl:(lP l).length≤9:=by have:=kT l l.length 0;unfold lP;omega
 refine Cl.of Tryz.func280 rfl Tryz.ntmps280 (by simp) (aj (k:=0) rfl (bh)) ?_
 refine .ai (.z zg (.nil (.ai (.z zg (.nil (.ai (.z zg (.nil (.seq ?_)))))))))
 refine .block ?_
 refine .loop (fun p:Nat×Value=>⟨51,[],[(4,I (p.1:Int)),(3,p.2),(0,.slice a l.length c)]⟩)
  (fun p w=>p.1≤l.length∧∃j en,j≤(lP l).length∧(lP l).drop j=mz l p.1∧cu 2 p.2 (C5 ((lP l).take j)) en∧St H w (en::σ)) (fun p=>l.length - p.1) (0,.slice none 0 0) (by repeat (first|exact .nil rfl rfl|refine .cons rfl ?_))
  ⟨Nat.zero_le _,0,_,Nat.zero_le _,rfl,.nil 2 none,hs.nul⟩ ?_
 rintro ⟨i,vo⟩ w ⟨hil,j,en,hj,hd,hO,hs⟩
 dsimp only at hil hd hO ⊢
 have htl:=List.length_take_le j (lP l)
 refine .seq (.ai (.z zm (.z cA (.z zm (.z (cM aa) (.z fN (.nil ?_)))))))
 refine (.bJ rfl (fun hc10=>?_) (fun hc10=>?_))
 ·refine .skip ?_
  refine nT ?_
  refine .block (.ai (.z zg (.nil ?_)))
  refine .cut (fun fs w=>kJ fs ⟨51,[],[(5,I (((if eg l i then 2 else 1:Nat)):Int)),(4,I (i:Int)),(3,vo),(0,.slice a l.length c)]⟩∧St H w (en::σ)) ?_ ?_
  ·refine .seq (.draw mix rfl hs ?_);intro w hs
   refine .z 0 rfl zm ?_;refine .z 1 rfl cA ?_;refine .z 2 rfl zm ?_;refine .z 3 rfl (cM aa) ?_;refine .z 4 rfl fN ?_;refine .z 5 rfl zm ?_
   refine .iE (t':=16) rfl (fun hb16=>?_) (fun hb16=>?_)
   ·refine .z 6 rfl zm ?_;refine .z 7 rfl zm ?_;refine .z 8 rfl cA ?_
    have r1:=hp.rise i (by omega)
    have r2:gi l (i+1)<gi l (i+2):=hp.rise (i+1) (by omega)
    have q1:=hp.bd (i:=i) (by omega)
    have q2:=hp.bd (i:=i+2) (by omega)
    refine .ixX (enc:=fun x=>[I x]) (i:=9) hs rfl (by kernel_rfl) (.some rfl rfl) hr rfl rfl aa ae (br (l:=l) (i:=(i+1)) (by omega)) (by first|rfl|assumption|omega) ?_;intro b20 o20 hc20;replace hc20:=bG.one hc20
    refine .r (i:=10) hs rfl (by kernel_rfl) (.some rfl rfl) (aM rfl af hc20) ?_
    refine .z 11 rfl zm ?_;refine .z 12 rfl zm ?_
    refine .ixX (enc:=fun x=>[I x]) (i:=13) hs rfl (by kernel_rfl) (.some rfl rfl) hr rfl rfl aa ae (br (l:=l) (i:=i) (by omega)) (by first|rfl|assumption|omega) ?_;intro b24 o24 hc24;replace hc24:=bG.one hc24
    refine .r (i:=14) hs rfl (by kernel_rfl) (.some rfl rfl) (aM rfl af hc24) ?_
    refine .z 15 rfl gM ?_;refine .z 16 rfl zm ?_;refine .z 17 rfl zm ?_;refine .z 18 rfl cA ?_
    refine .ixX (enc:=fun x=>[I x]) (i:=19) hs rfl (by kernel_rfl) (.some rfl rfl) hr rfl rfl aa ae (br (l:=l) (i:=(i+2)) (by omega)) (by first|rfl|assumption|omega) ?_;intro b30 o30 hc30;replace hc30:=bG.one hc30
    refine .r (i:=20) hs rfl (by kernel_rfl) (.some rfl rfl) (aM rfl af hc30) ?_
    refine .z 21 rfl zm ?_;refine .z 22 rfl zm ?_;refine .z 23 rfl cA ?_
    refine .ixX (enc:=fun x=>[I x]) (i:=24) hs rfl (by kernel_rfl) (.some rfl rfl) hr rfl rfl aa ae (br (l:=l) (i:=(i+1)) (by omega)) (by first|rfl|assumption|omega) ?_;intro b35 o35 hc35;replace hc35:=bG.one hc35
    refine .r (i:=25) hs rfl (by kernel_rfl) (.some rfl rfl) (aM rfl af hc35) ?_
    refine .z 26 rfl gM ?_
    refine .e1 (i:=27) (by kernel_rfl) rfl rfl (.some rfl rfl) hs ?_
    refine .call Tryz.call281 rfl (my hs (by omega) (by omega)) ?_;rintro _ w ⟨rfl,hs⟩
    refine .go ?_
    refine .z 28 rfl lk ?_;refine .z 29 rfl zpT ?_;refine .done (by kernel_rfl) hs ?_
    refine (.bJ rfl (fun hc40=>?_) (fun hc40=>?_))
    ·refine .region (.z zg (.nil ?_))
     refine nT ?_
     have e:eg l i=true:=by simp [eg];omega
     rw [e];exact ⟨by repeat (first|exact .nil rfl rfl|refine .cons rfl ?_),hs⟩
    ·refine .skip ?_
     refine nT ?_
     have e:eg l i=false:=by simp [eg];omega
     rw [e];exact ⟨by repeat (first|exact .nil rfl rfl|refine .cons rfl ?_),hs⟩
   ·refine .qF (i:=6) rfl (by kernel_rfl) rfl rfl ?_
    refine .qF (i:=7) rfl (by kernel_rfl) rfl rfl ?_
    refine .qF (i:=8) rfl (by kernel_rfl) rfl rfl ?_
    refine .qF (i:=9) rfl (by kernel_rfl) rfl rfl ?_
    refine .qF (i:=10) rfl (by kernel_rfl) rfl rfl ?_
    refine .qF (i:=11) rfl (by kernel_rfl) rfl rfl ?_
    refine .qF (i:=12) rfl (by kernel_rfl) rfl rfl ?_
    refine .qF (i:=13) rfl (by kernel_rfl) rfl rfl ?_
    refine .qF (i:=14) rfl (by kernel_rfl) rfl rfl ?_
    refine .qF (i:=15) rfl (by kernel_rfl) rfl rfl ?_
    refine .qF (i:=16) rfl (by kernel_rfl) rfl rfl ?_
    refine .qF (i:=17) rfl (by kernel_rfl) rfl rfl ?_
    refine .qF (i:=18) rfl (by kernel_rfl) rfl rfl ?_
    refine .qF (i:=19) rfl (by kernel_rfl) rfl rfl ?_
    refine .qF (i:=20) rfl (by kernel_rfl) rfl rfl ?_
    refine .qF (i:=21) rfl (by kernel_rfl) rfl rfl ?_
    refine .qF (i:=22) rfl (by kernel_rfl) rfl rfl ?_
    refine .qF (i:=23) rfl (by kernel_rfl) rfl rfl ?_
    refine .qF (i:=24) rfl (by kernel_rfl) rfl rfl ?_
    refine .qF (i:=25) rfl (by kernel_rfl) rfl rfl ?_
    refine .qF (i:=26) rfl (by kernel_rfl) rfl rfl ?_
    refine .qF (i:=27) rfl (by kernel_rfl) rfl rfl ?_
    refine .qF (i:=28) rfl (by kernel_rfl) rfl rfl ?_
    refine .z 29 rfl zpF ?_;refine .done (by kernel_rfl) hs ?_
    refine (.mj rfl (by first|rfl|exact decide_eq_false (by assumption)) ?_)
    refine .skip ?_
    refine nT ?_
    have e:eg l i=false:=by simp [eg];omega
    rw [e];exact ⟨by repeat (first|exact .nil rfl rfl|refine .cons rfl ?_),hs⟩
  ·rintro fs w ⟨hfs,hs⟩
   refine WE.sub ?_ hfs
   have hgo:=te (l:=l) (i:=i) (by omega)
   rw [hgo] at hd
   have hjl:j<(lP l).length:=by
    have:=congrArg List.length hd
    simp at this;omega
   have hgj:(lP l)[j]? =some ⟨i,eg l i⟩:=by
    rw [List.drop_eq_getElem_cons hjl] at hd
    rw [List.getElem?_eq_getElem hjl,(List.cons.inj hd).1]
   have hdj:(lP l).drop (j+1)=mz l (i+(if eg l i then 2 else 1)):=by
    rw [List.drop_eq_getElem_cons hjl] at hd
    exact (List.cons.inj hd).2
   have hn12:(if eg l i then 2 else 1:Nat)=1∨(if eg l i then 2 else 1:Nat)=2:=by split<;>simp
   have hgc:Grp.c ⟨i,eg l i⟩=[I (i:Int),I (((if eg l i then 2 else 1:Nat)):Int)]:=rfl
   generalize (if eg l i then 2 else 1:Nat)=n at*
   refine .ai (.z zm (.z zm (.z zm (.z (zbd [_,_] qe) ?_))))
   refine .o (.buildSlice (cells:=[_,_]) hs qb rfl rfl ?_);intro b45 w hs
   refine .o (.append (ys:=[I (i:Int),I (n:Int)]) hs kI rfl rfl hO (.own .here rfl rfl) (by simp [Value.oneCell']) (fun l' h=>by rw [tt] at h;omega) ?_);intro v46 en46 w hO2 hs
   rw [←hgc,show Grp.c ⟨i,eg l i⟩=C5 [⟨i,eg l i⟩] by simp [C5],←yA,←dK hgj] at hO2
   refine .z zg (.nil (.region (.z zm (.z zm (.z cA (.z zg (.nil ?_)))))))
   refine nB (nT ?_)
   exact ⟨(i+n,v46),.cq rfl (by simp) (by repeat (first|exact .nil rfl rfl|refine .cons rfl ?_)),⟨by dsimp only;omega,j+1,_,hjl,hdj,hO2,hs.sub (by repeat (first|exact Sub.refl _|constructor|apply Sub.weaken))⟩,by dsimp only;omega⟩
 ·refine .exit ?_
  refine xT (xT (xB (nT ?_)))
  refine .ai (.z zm (.z zg (.nil ?_)))
  refine .ret (Fin.bI Tryz.results280 rfl ?_)
  rw [qK (by omega)] at hd
  have:(lP l).length≤j:=by simpa using hd
  obtain rfl:j=(lP l).length:=by omega
  rw [List.take_length] at hO
  obtain ⟨H1,g1,r1,hs⟩:=cu.cP (m:=2) (cs:=(lP l).map Grp.c) hO (fun c hc=>by simp only [List.mem_map] at hc;obtain ⟨x,_,rfl⟩:=hc;rfl) (by omega) (by rw [List.length_map];omega) hs .here
  exact ⟨H1,g1,r1,hs⟩
theorem pV{l:List Int}{i j:Nat}(h:i≠j)(x:Int):gi (l.set i x) j=gi l j:=by
 simp [gi,List.getD,h]
set_option maxHeartbeats 1000000 in
theorem iM{H:bn}{w:World}{σ:List Ent}{v:Value}{l:List Int}(hs:St H w σ)(hr:RI H v l)(hp:eu 9 100000 l):
  Cl Tryz.prog 251 [v] w fun u w'=>∃H1,HLe H H1∧RI H1 u (wts l)∧St H1 w' σ:=by
 obtain ⟨a,c,rfl⟩:=RI.shape hr
 have hln:=hp.many
 have hgl:(lP l).length≤9:=by have:=kT l l.length 0;unfold lP;omega
 refine Cl.of Tryz.func251 rfl Tryz.ntmps251 (by simp) (aj (k:=0) rfl (bh)) ?_
 refine .ai (.z zg (.nil (.ai (.z zm (.z (cM aa) ?_)))))
 refine .o (.oT l.length hs rfl rfl aa dq rfl ae bH (by omega) ?_);intro b16 w hs
 replace hs:St H w (.blk b16 (Is (sv l 0))::σ):=hs
 refine .z zg (.nil (.ai (.z zm ?_)))
 refine .o (.call Tryz.call280 rfl (qD hs hr hp) ?_);rintro v18 w ⟨H1,hle1,hG,hs⟩
 have hrr:=hr.mono hle1
 obtain ⟨ag,cg,rfl⟩:=RS.shape hG
 rw [List.length_map] at hG ⊢
 refine .z zg (.nil (.seq (.ai (.z zg (.nil (.block ?_))))))
 refine .loop (fun k:Nat=>⟨133,[],[(5,I (k:Int)),(4,.slice ag (lP l).length cg),(3,.slice (some ⟨b16,0,none⟩) l.length l.length),(0,.slice a l.length c)]⟩)
  (fun k w=>k≤(lP l).length∧St H1 w (.blk b16 (Is (sv l k))::σ)) (fun k=>(lP l).length - k) 0 (.cq rfl (by simp) (by repeat (first|exact .nil rfl rfl|refine .cons rfl ?_)))
  ⟨Nat.zero_le _,hs⟩ ?_
 rintro k w ⟨hk,hs⟩
 refine .seq (.ai (.z zm (.z zm (.z (cM gh) (.z fN (.nil ?_))))))
 refine (.bJ rfl (fun hc22=>?_) (fun hc22=>?_))
 ·refine .skip ?_
  refine nT ?_
  refine .seq (.block (.ai (.z zm (.z zm ?_))))
  have hjl:k<(lP l).length:=by omega
  obtain ⟨g,hg⟩:=nth hjl
  obtain ⟨i1,i2,i3,i4,i5⟩:=tf hp (List.mem_of_getElem? hg)
  have hK:=su hg
  have hKl:=mb l k
  have hKz:=qn hp k (by omega)
  have z0:=hZ (sv l k) (v:=g.at_) (n:=l.length) (by omega)
  have z1:=hZ (sv l k) (v:=g.at_+1) (n:=l.length) (by omega)
  have hq0:=hp.bd (i:=g.at_) (by omega)
  have hq1:=hp.bd (i:=g.at_+1) (by omega)
  have hgm:((lP l).map Grp.c)[k]? =some (Grp.c g):=by rw [List.getElem?_map,hg];rfl
  generalize sv l k=W at*
  have e1:∀x,gi (W.set g.at_ x) (g.at_+1)=gi W (g.at_+1):=fun x=>pV (by omega) x
  generalize hA:gi l (g.at_+1) - gi l g.at_=A at*
  refine .ixX (enc:=Grp.c) hs hG rfl rfl gh jN hg (by first|rfl|assumption|omega) ?_;intro b27 o27 hc27
  have d0:cellAt H1 b27 o27=some (I (g.at_:Int)):=hc27 0 _ rfl
  have d1:cellAt H1 b27 (o27+1)=some (I (g.n:Int)):=hc27 1 _ rfl
  refine .z (zfa fu) (.y hs (zld af) (.z zg (.nil ?_)))
  refine .seq (.draw mix rfl hs ?_);intro w hs
  refine .z 0 rfl zm ?_;refine .z 1 rfl zm ?_;refine .z 2 rfl cA ?_
  refine .ixX (enc:=fun x=>[I x]) (i:=3) hs rfl (by kernel_rfl) .none hrr rfl rfl aa ae (br (l:=l) (i:=(g.at_+1)) (by omega)) (by first|rfl|assumption|omega) ?_;intro b33 o33 hc33;replace hc33:=bG.one hc33
  refine .r (i:=4) hs rfl (by kernel_rfl) .none (aM rfl af hc33) ?_
  refine .z 5 rfl zm ?_;refine .z 6 rfl zm ?_
  refine .ixX (enc:=fun x=>[I x]) (i:=7) hs rfl (by kernel_rfl) .none hrr rfl rfl aa ae (br (l:=l) (i:=g.at_) (by omega)) (by first|rfl|assumption|omega) ?_;intro b37 o37 hc37;replace hc37:=bG.one hc37
  refine .r (i:=8) hs rfl (by kernel_rfl) .none (aM rfl af hc37) ?_
  refine .z 9 rfl gM ?_
  rw [hA]
  refine .z 10 rfl zg ?_;refine .done (by kernel_rfl) hs ?_
  refine .seq (.ai (.z zm (.z zm ?_)))
  refine .ixX (enc:=Grp.c) hs hG rfl rfl gh jN hg (by first|rfl|assumption|omega) ?_;intro b42 o42 hc42
  have d2:cellAt H1 b42 (o42+1)=some (I (g.n:Int)):=hc42 1 _ rfl
  refine .z (zfa gX) (.y hs (zld af) (.z fA (.nil ?_)))
  refine (.bJ rfl (fun hc45=>?_) (fun hc45=>?_))
  ·refine .ai (.z zm (.z zm ?_))
   refine .q hs (dF (k:=g.at_) rfl rfl aa ae (by omega) (by omega)) ?_
   refine .y hs (zld af) (.z zm (.z j7 (.z cA ?_)))
   refine .q hs (dF (k:=g.at_) rfl rfl aa ae (by omega) (by omega)) ?_
   refine .o (.store hs rfl rfl ae ?_);intro w hs
   refine .nil (.ai (.z zm (.z zm (.z cA ?_))))
   refine .q hs (dF (k:=g.at_+1) rfl rfl aa ae (by omega) (by omega)) ?_
   refine .q hs (dE rfl af (hv:=eI (by rw [List.length_set];omega))) ?_
   rw [e1]
   refine .z zm (.z j7 (.z cA ?_))
   refine .q hs (dF (k:=g.at_+1) rfl rfl aa ae (by omega) (by omega)) ?_
   refine .o (.store hs rfl rfl ae ?_ (by repeat constructor) (by simp [Is];omega));intro w hs
   refine .nil ?_
   refine .exit ?_
   refine xT (xB (nT ?_))
   refine .region (.z zm (.z cA (.z zg (.nil ?_))))
   refine nT ?_
   have h2:g.two=false:=by
    cases e:g.two with
    |false=>rfl
    |true=>simp [Grp.n,e] at hc45
   rw [y7 h2 hA] at hK
   have e:sv l (k+1)=(W.set g.at_ (gi W g.at_+18*A)).set (g.at_+1) (gi W (g.at_+1)+18*A):=by rw [hK];simp only [kB];rw [e1]
   exact ⟨k+1,.cq rfl (by simp) (by repeat (first|exact .nil rfl rfl|refine .cons rfl ?_)),⟨by omega,by rw [e];exact hs⟩,by omega⟩
  ·refine .skip ?_
   refine nT ?_
   refine .seq (.draw mix rfl hs ?_);intro w hs
   have h2:g.two=true:=by
    cases e:g.two with
    |true=>rfl
    |false=>simp [Grp.n,e] at hc45
   obtain ⟨j1,j2,j3,j4⟩:=i4 h2
   have hq2:=hp.bd (i:=g.at_+2) (by omega)
   have z2:=hZ W (v:=g.at_+2) (n:=l.length) (by omega)
   have e2:∀x y,gi ((W.set g.at_ x).set (g.at_+1) y) (g.at_+2)=gi W (g.at_+2):=fun x y=>by rw [pV (by omega),pV (by omega)]
   generalize hB:gi l (g.at_+2) - gi l (g.at_+1)=B at*
   have hk3:=Ap j4
   have hmm:=uJ (a:=A) (b:=B) ⟨by omega,by omega⟩ ⟨by omega,by omega⟩
   obtain ⟨n1,n2,n3,n4⟩:=y5 hk3 hmm.1 hmm.2
   obtain ⟨n5,n6,n7,n8,n9⟩:=n4 _ n3.1 n3.2
   have hgw0:=y6 h2 hA hB rfl rfl
   refine .z 0 rfl zm ?_;refine .z 1 rfl zm ?_;refine .z 2 rfl cA ?_
   refine .ixX (enc:=fun x=>[I x]) (i:=3) hs rfl (by kernel_rfl) .none hrr rfl rfl aa ae (br (l:=l) (i:=(g.at_+2)) (by omega)) (by first|rfl|assumption|omega) ?_;intro b66 o66 hc66;replace hc66:=bG.one hc66
   refine .r (i:=4) hs rfl (by kernel_rfl) .none (aM rfl af hc66) ?_
   refine .z 5 rfl zm ?_;refine .z 6 rfl zm ?_;refine .z 7 rfl cA ?_
   refine .ixX (enc:=fun x=>[I x]) (i:=8) hs rfl (by kernel_rfl) .none hrr rfl rfl aa ae (br (l:=l) (i:=(g.at_+1)) (by omega)) (by first|rfl|assumption|omega) ?_;intro b71 o71 hc71;replace hc71:=bG.one hc71
   refine .r (i:=9) hs rfl (by kernel_rfl) .none (aM rfl af hc71) ?_
   refine .z 10 rfl gM ?_
   rw [hB]
   refine .z 11 rfl zg ?_;refine .done (by kernel_rfl) hs ?_
   refine .ai (.z zm (.z zm ?_))
   refine .o (.call Tryz.call281 rfl (my hs (by omega) (by omega)) ?_);rintro _ w ⟨rfl,hs⟩
   generalize hT:tms A B=T at*
   refine .z zg (.nil (.ai (.z zm (.z zm (.z Ad ?_)))))
   generalize hM:min A B=M at*
   refine .z zg (.nil (.ai (.z zm ?_)))
   refine .q hs (uF rfl rfl (by omega) (by omega)) ?_
   refine .z zm (.z cA (.z j7 (.z zm (.z j7 (.z zg (.nil (.ai (.z zm (.z zm ?_)))))))))
   refine .z j7 (.z zm (.z gM (.z j7 (.z zg (.nil (.ai (.z zm (.z zm (.z j7 ?_)))))))))
   refine .z gM (.z j7 (.z zg (.nil ?_)))
   refine .cut (fun fs w=>∃x y:Int,kJ fs ⟨133,[],[(13,I y),(12,I x),(11,I ((6:Int).tdiv T*(1+T)*M)),(9,I T),(6,I (g.at_:Int)),(5,I (k:Int)),(4,.slice ag (lP l).length cg),(3,.slice (some ⟨b16,0,none⟩) l.length l.length),(0,.slice a l.length c)]⟩∧(-6000000≤x∧x≤6000000)∧(-6000000≤y∧y≤6000000)∧ui l g=[x,(6:Int).tdiv T*(1+T)*M*(1+T)*(1+T),y]∧St H1 w (.blk b16 (Is W)::σ)) ?_ ?_
   ·refine .ai (.z zm (.z zm (.z lk (.nil ?_))))
    refine (.bJ rfl (fun hc100=>?_) (fun hc100=>?_))
    ·refine .region (.z zm (.z zm (.z zg (.z zg (.nil ?_)))))
     refine nT ?_
     exact ⟨_,_,by repeat (first|exact .nil rfl rfl|refine .cons rfl ?_),by omega,by omega,by rw [hgw0,if_pos hc100],hs⟩
    ·refine .skip ?_
     refine nT ?_
     exact ⟨_,_,by repeat (first|exact .nil rfl rfl|refine .cons rfl ?_),by omega,by omega,by rw [hgw0,if_neg (by omega)],hs⟩
   ·rintro fs w ⟨x,y,hfs,hx,hy,hgw,hs⟩
    refine WE.sub ?_ hfs
    have e:sv l (k+1)=((W.set g.at_ (gi W g.at_+x)).set (g.at_+1) (gi W (g.at_+1)+(6:Int).tdiv T*(1+T)*M*(1+T)*(1+T))).set (g.at_+2) (gi W (g.at_+2)+y):=by
     rw [hK,hgw];simp only [kB];rw [e1,show g.at_+1+1=g.at_+2 by omega,e2]
    refine .ai (.z zm (.z zm ?_))
    refine .q hs (dF (k:=g.at_) rfl rfl aa ae (by omega) (by omega)) ?_
    refine .y hs (zld af) (.z zm (.z cA ?_))
    refine .q hs (dF (k:=g.at_) rfl rfl aa ae (by omega) (by omega)) ?_
    refine .o (.store hs rfl rfl ae ?_);intro w hs
    refine .nil (.ai (.z zm (.z zm (.z cA ?_))))
    refine .q hs (dF (k:=g.at_+1) rfl rfl aa ae (by omega) (by omega)) ?_
    refine .q hs (dE rfl af (hv:=eI (by rw [List.length_set];omega))) ?_
    rw [e1]
    refine .z zm (.z zm (.z cA (.z j7 (.z zm (.z cA (.z j7 (.z cA ?_)))))))
    refine .q hs (dF (k:=g.at_+1) rfl rfl aa ae (by omega) (by omega)) ?_
    refine .o (.store hs rfl rfl ae ?_ (by repeat constructor) (by simp [Is];omega));intro w hs
    refine .nil (.region (.z zm (.z zm (.z cA ?_))))
    refine .q hs (dF (k:=g.at_+2) rfl rfl aa ae (by omega) (by omega)) ?_
    refine .q hs (dE rfl af (hv:=eI (by rw [List.length_set,List.length_set];omega))) ?_
    rw [e2]
    refine .z zm (.z cA ?_)
    refine .q hs (dF (k:=g.at_+2) rfl rfl aa ae (by omega) (by omega)) ?_
    refine .o (.store hs rfl rfl ae ?_ (by repeat constructor) (by simp [Is];omega));intro w hs
    refine .nil ?_
    refine nB (nT ?_)
    refine .region (.z zm (.z cA (.z zg (.nil ?_))))
    refine nT ?_
    exact ⟨k+1,.cq rfl (by simp) (by repeat (first|exact .nil rfl rfl|refine .cons rfl ?_)),⟨by omega,by rw [e];exact hs⟩,by omega⟩
 ·refine .exit ?_
  refine xT (xT (xB (nT ?_)))
  refine .ai (.z zm (.z zg (.nil ?_)))
  refine .ret (Fin.bI Tryz.results251 rfl ?_)
  obtain rfl:k=(lP l).length:=by omega
  rw [yD] at hs
  obtain ⟨H3,hle3,hR,hs⟩:=cu.df (xs:=wts l) (v:= .slice (some ⟨b16,0,none⟩) l.length l.length) (.full (by simp [Is,ed])) (by rw [ed];omega) hs .here
  exact ⟨H3,hle1.trans hle3,hR,hs⟩
theorem kN{H:bn}{w:World}{σ:List Ent}{v:Value}{l:List Int}(hs:St H w σ)(hr:RI H v l)(hp:eu 9 100000 l):
  Cl Tryz.prog 196 [v] w fun u w'=>∃H1 vo,HLe H H1∧u= .tuple #[vo,I 0]∧RI H1 vo (wts l)∧St H1 w' σ:=by
 refine Cl.of Tryz.func196 rfl Tryz.ntmps196 (by simp) (aj (k:=0) rfl (bh)) ?_
 refine .ai (.z zg (.z zg (.nil (.seq (.ai (.z zm ?_))))))
 refine .o (.call Tryz.call84 rfl (gp hs hr) ?_);rintro _ w ⟨e,rfl,he,hs⟩
 obtain rfl:e=0:=he.elim (fun h=>h.2) fun h=>(h.1 hp).elim
 refine .z iA (.nil ?_)
 refine (.e9 rfl (fun hc7=>?_) (fun hc7=>?_))
 ·refine .ai (.z zg (.z zg (.nil ?_)))
  refine .ret (rT (Fin.lg Tryz.results196 rfl rfl ?_))
  exact (hc7 rfl).elim
 ·refine .skip ?_
  refine nT ?_
  refine .ai (.z zm ?_)
  refine .o (.call Tryz.call251 rfl (iM hs hr hp) ?_);rintro v9 w ⟨H1,hle1,hR,hs⟩
  refine .z zg (.nil (.ai (.z zm (.z zg (.z zg (.nil ?_))))))
  refine .ret (Fin.lg Tryz.results196 rfl rfl ?_)
  exact ⟨H1,_,hle1,rfl,hR,hs⟩
theorem pE{H:bn}{w:World}{σ:List Ent}{v1 v2:Value}{a b:List Int}(hs:St H w σ)(h1:RI H v1 a)(h2:RI H v2 b)(hp1:eu 9 100000 a)(hp2:eu 7 15000 b):
  Cl Tryz.prog 250 [v1,v2] w fun u w'=>u= .bool true∧St H w' σ:=by
 refine Cl.of Tryz.func250 rfl Tryz.ntmps250 (by simp) (aj (k:=0) rfl (aj (k:=1) rfl (bh))) ?_
 refine .ai (.z zg (.nil (.ai (.z zm ?_))))
 refine .o (.call Tryz.call168 rfl (jo (many:=9) (most:=100000) hs h1 (by omega)) ?_);rintro _ w ⟨b6,rfl,hb6,hs⟩
 refine .z zm ?_
 refine .bif (t':=7) rfl (fun hb7=>?_) (fun hb7=>?_)
 ·refine .gT rfl rfl ?_
  refine .z zm ?_
  refine .gT rfl rfl ?_
  refine .o (.call Tryz.call168 rfl (jo (many:=7) (most:=15000) hs h2 (by omega)) ?_);rintro _ w ⟨b9,rfl,hb9,hs⟩
  refine .z zpT (.z zg (.nil ?_))
  refine .ret (Fin.bI Tryz.results250 rfl ?_)
  exact ⟨by rw [hb9.2 hp2],hs⟩
 ·refine .gFs 2 2 true rfl rfl rfl ?_
  refine .z zpF (.z zg (.nil ?_))
  refine .ret (Fin.bI Tryz.results250 rfl ?_)
  rw [hb6.2 hp1] at hb7;cases hb7
set_option maxHeartbeats 1000000 in
theorem sU{H:bn}{w:World}{σ:List Ent}{v1 v2:Value}{l1 l2:List Int}(hs:St H w σ)(hr1:RI H v1 l1)(hr2:RI H v2 l2)(hp1:eu 9 100000 l1)(hp2:eu 7 15000 l2):
  Cl Tryz.prog 195 [v1,v2] w fun u w'=>∃H1 vo,HLe H H1∧u= .tuple #[vo,I 0]∧RT H1 vo (lQ (wts l1) (wts l2) l1.length)∧St H1 w' σ:=by
 obtain ⟨a1,c1,rfl⟩:=RI.shape hr1
 obtain ⟨a2,c2,rfl⟩:=RI.shape hr2
 have hn1:=hp1.many
 have hn2:=hp2.many
 have hp2':eu 9 100000 l2:=⟨hp2.two,by omega,hp2.low,by have:=hp2.high;omega,hp2.rise⟩
 have hXl:=ed l1
 have hYl:=ed l2
 have hXb:=yC hp1
 have hYb:=yC hp2
 refine Cl.of Tryz.func195 rfl Tryz.ntmps195 (by simp) (aj (k:=0) rfl (aj (k:=1) rfl (bh))) ?_
 refine .ai (.z zg (.z zg (.nil (.seq (.ai (.z zm (.z zm ?_)))))))
 refine .o (.call Tryz.call250 rfl (pE hs hr1 hr2 hp1 hp2) ?_);rintro _ w ⟨rfl,hs⟩
 refine .z iI (.nil ?_)
 refine (.cond rfl (fun hc15=>?_) (fun hc15=>?_))
 ·refine .ai (.z zg (.z zg (.nil ?_)))
  refine .ret (rT (Fin.lg Tryz.results195 rfl rfl ?_))
  cases hc15
 ·refine .skip ?_
  refine nT ?_
  refine .ai (.z zm ?_)
  refine .o (.call Tryz.call251 rfl (iM hs hr1 hp1) ?_);rintro v17 w ⟨H1,hle1,hX,hs⟩
  refine .z zg (.nil (.ai (.z zm ?_)))
  refine .o (.call Tryz.call251 rfl (iM hs (hr2.mono hle1) hp2') ?_);rintro v19 w ⟨H2,hle2,hY,hs⟩
  replace hX:=hX.mono hle2
  generalize wts l1=X at*
  generalize wts l2=Y at*
  obtain ⟨aX,cX,rfl⟩:=RI.shape hX
  obtain ⟨aY,cY,rfl⟩:=RI.shape hY
  refine .z zg (.nil (.ai (.z zg (.nil (.seq (.ai (.z zg (.nil (.block ?_)))))))))
  refine .loop (fun p:Nat×Value=>⟨49,[],[(9,I (p.1:Int)),(8,p.2),(7,.slice aY Y.length cY),(6,.slice aX X.length cX)]⟩)
   (fun p w=>p.1≤X.length∧∃H3 us en,HLe H2 H3∧RLs H3 us (lQ X Y p.1)∧cu 1 p.2 us en∧St H3 w (en::σ)) (fun p=>X.length - p.1) (0,.slice none 0 0) (by repeat (first|exact .nil rfl rfl|refine .cons rfl ?_))
   ⟨Nat.zero_le _,H2,[],_,HLe.refl _,RLs.nil _,.nil 1 none,hs.nul⟩ ?_
  rintro ⟨i,vo⟩ w ⟨hi,H3,us,en,hle3,hRL,hO,hs⟩
  dsimp only at hi hRL hO ⊢
  have husl:us.length=i:=by rw [hRL.1,jF]
  refine .seq (.ai (.z zm (.z zm (.z (cM aa) (.z fN (.nil ?_))))))
  refine (.bJ rfl (fun hc23=>?_) (fun hc23=>?_))
  ·refine .skip ?_
   refine nT ?_
   refine .seq (.block (.ai (.z zg (.nil (.seq (.ai (.z zg (.nil (.block ?_)))))))))
   refine .loop (fun p:Nat×Value=>⟨49,[],[(11,I (p.1:Int)),(10,p.2),(9,I (i:Int)),(8,vo),(7,.slice aY Y.length cY),(6,.slice aX X.length cX)]⟩)
    (fun p w=>p.1≤Y.length∧∃en2,cu 1 p.2 (Is ((wz X Y i).take p.1)) en2∧St H3 w (en2::en::σ)) (fun p=>Y.length - p.1) (0,.slice none 0 0) (by repeat (first|exact .nil rfl rfl|refine .cons rfl ?_))
    ⟨Nat.zero_le _,_,.nil 1 none,hs.nul⟩ ?_
   rintro ⟨k,vr⟩ w ⟨hk,en2,hO2,hs⟩
   dsimp only at hk hO2 ⊢
   refine .seq (.ai (.z zm (.z zm (.z (cM aa) (.z fN (.nil ?_))))))
   refine (.bJ rfl (fun hc29=>?_) (fun hc29=>?_))
   ·refine .skip ?_
    refine nT ?_
    refine .seq (.block ?_)
    refine .draw mix rfl hs ?_;intro w hs
    refine .z 0 rfl zm ?_;refine .z 1 rfl zm ?_;refine .z 2 rfl zm ?_
    have hkm:k<Y.length:=by omega
    have hb1:=hXb i
    have hb2:=hYb k
    have hprb: -3456000000000≤gi X i*gi Y k∧gi X i*gi Y k≤3456000000000:=kS (A:=4800000) (B:=720000) (by unfold ab at hb1;omega) (by unfold ab at hb2;omega)
    refine .ixX (enc:=fun x=>[I x]) (i:=3) hs rfl (by kernel_rfl) .none (hX.mono hle3) rfl rfl aa ae (br (l:=X) (i:=i) (by omega)) (by first|rfl|assumption|omega) ?_;intro b35 o35 hc35;replace hc35:=bG.one hc35
    refine .r (i:=4) hs rfl (by kernel_rfl) .none (aM rfl af hc35) ?_
    refine .z 5 rfl zm ?_;refine .z 6 rfl zm ?_
    refine .ixX (enc:=fun x=>[I x]) (i:=7) hs rfl (by kernel_rfl) .none (hY.mono hle3) rfl rfl aa ae (br (l:=Y) (i:=k) (by omega)) (by first|rfl|assumption|omega) ?_;intro b39 o39 hc39;replace hc39:=bG.one hc39
    refine .r (i:=8) hs rfl (by kernel_rfl) .none (aM rfl af hc39) ?_
    refine .z 9 rfl j7 ?_
    refine .e1 (i:=10) (by kernel_rfl) rfl rfl .none hs ?_
    refine .buildSlice (cells:=[_]) hs cV rfl rfl ?_;intro b42 w hs
    refine .go ?_
    refine .e1 (i:=11) (by kernel_rfl) rfl rfl .none hs ?_
    refine .append (ys:=Is [gi X i*gi Y k]) hs bP rfl rfl hO2 (.own .here rfl rfl) (fL _) (fun l' h=>by simp at h;omega) ?_;intro v43 en43 w hO43 hs
    rw [show Is ((wz X Y i).take k)++Is [gi X i*gi Y k]=Is ((wz X Y i).take (k+1)) by rw [wR hkm];simp [Is]] at hO43
    refine .go ?_
    refine .z 12 rfl zg ?_;refine .done (by kernel_rfl) hs ?_
    refine nB (nT ?_)
    refine .region (.z zm (.z cA (.z zg (.nil ?_))))
    refine nT ?_
    exact ⟨(k+1,v43),.cq rfl (by simp) (by repeat (first|exact .nil rfl rfl|refine .cons rfl ?_)),⟨by dsimp only;omega,_,hO43,hs.sub (by repeat (first|exact Sub.refl _|constructor|apply Sub.weaken))⟩,by dsimp only;omega⟩
   ·refine .exit ?_
    refine xT (xT (xB (nT ?_)))
    refine .region (.z zm (.z zm ?_))
    obtain ⟨H4,hle4,hR,hs⟩:=cu.df hO2 (by rw [List.length_take,jm];omega) hs .here
    rw [List.take_of_length_le (by rw [jm];omega)] at hR
    obtain ⟨ar,cr,rfl⟩:=RI.shape hR
    refine .o (.buildSlice (cells:=[_]) hs uq rfl rfl ?_);intro b46 w hs
    refine .o (.append (ys:=[.slice ar (wz X Y i).length cr]) hs o7 rfl rfl hO (.own .here rfl rfl) (by simp [Value.oneCell']) (fun l' h=>by omega) ?_);intro v47 en47 w hO47 hs
    have hRL':RLs H4 (us++[.slice ar (wz X Y i).length cr]) (lQ X Y (i+1)):=by rw [uN];exact (hRL.mono hle4).snoc hR
    refine .z zg (.nil ?_)
    refine nB (nT ?_)
    refine .region (.z zm (.z cA (.z zg (.nil ?_))))
    refine nT ?_
    exact ⟨(i+1,v47),.cq rfl (by simp) (by repeat (first|exact .nil rfl rfl|refine .cons rfl ?_)),⟨by dsimp only;omega,H4,_,_,hle3.trans hle4,hRL',hO47,hs.sub (by repeat (first|exact Sub.refl _|constructor|apply Sub.weaken))⟩,by dsimp only;omega⟩
  ·refine .exit ?_
   refine xT (xT (xB (nT ?_)))
   refine .ai (.z zm (.z zg (.z zg (.nil ?_))))
   refine .ret (Fin.lg Tryz.results195 rfl rfl ?_)
   obtain rfl:i=X.length:=by omega
   obtain ⟨H5,hle5,hR,hs⟩:=hRL.cP hO (by omega) hs .here
   exact ⟨H5,_,hle1.trans (hle2.trans (hle3.trans hle5)),rfl,by rw [←hXl];exact hR,hs⟩
theorem bw{H:bn}{w:World}{σ:List Ent}{a0 a1 a2:Int}(hs:St H w σ):Cl Tryz.prog 105 [I a0,I a1,I a2] w fun v w'=>v= .bool (decide (a1≤a0∧a0≤a2))∧St H w' σ:=by
 refine Cl.of Tryz.func105 rfl Tryz.ntmps105 (by simp) (aj (k:=0) rfl (aj (k:=1) rfl (aj (k:=2) rfl (bh)))) ?_
 refine .ai (.z zg (.nil (.ai (.z zm (.z zm (.z wH (.z zm ?_)))))))
 refine .iE (t':=10) rfl (fun hb10=>?_) (fun hb10=>?_)
 ·refine .gT rfl rfl ?_
  refine .z zm ?_
  refine .gT rfl rfl ?_
  refine .z zm ?_
  refine .gT rfl rfl ?_
  refine .z wH (.z zpT (.z zg (.nil ?_)))
  refine .ret (Fin.bI Tryz.results105 rfl ?_)
  exact ⟨by simp [*],hs.out⟩
 ·refine .gFs 3 3 true rfl rfl rfl ?_
  refine .z zpF (.z zg (.nil ?_))
  refine .ret (Fin.bI Tryz.results105 rfl ?_)
  exact ⟨by simp [*],hs.out⟩
theorem gz{H:bn}{w:World}{σ:List Ent}{a0:Int}(hs:St H w σ):Cl Tryz.prog 106 [I a0] w fun v w'=>v= .bool (decide (1≤a0∧a0≤99999))∧St H w' σ:=by
 refine Cl.of Tryz.func106 rfl Tryz.ntmps106 (by simp) (aj (k:=0) rfl (bh)) ?_
 refine .ai (.z zg (.nil (.ai (.z zm ?_))))
 refine .o (.call dv rfl (bw hs) ?_);rintro _ w ⟨rfl,hs⟩
 refine .z zg (.nil ?_)
 refine .ret (Fin.bI Tryz.results106 rfl ?_)
 exact ⟨rfl,hs⟩
theorem iQ{H:bn}{w:World}{σ:List Ent}{s:Spc}{vst vwa:Value}(hs:St H w σ)(h1:RI H vst s.st)(h2:RI H vwa s.wa):
  Cl Tryz.prog 41 [.agg #[I s.id,I s.src,vst,vwa,I s.al,I s.up]] w fun v w'=>∃H1 e,HLe H H1∧v=I e∧((fB s∧e=0)∨(¬fB s∧e=30))∧St H1 w' σ:=by
 obtain ⟨ast,cst,rfl⟩:=RI.shape h1
 obtain ⟨awa,cwa,rfl⟩:=RI.shape h2
 refine Cl.of Tryz.func41 rfl Tryz.ntmps41 (by simp) (aj (k:=0) rfl (bh)) ?_
 refine .ai ?_
 refine .o (.box hs rfl rfl ?_);intro b1 w hs
 refine .z zg (.nil (.seq (.ai (.z (zfa bA) (.y hs (zld ak) (.z (zfa bg) (.y hs (zld ak) ?_)))))))
 refine .o (.call Tryz.call104 rfl (mW hs h1 h2) ?_);rintro _ w ⟨H1,vo,e,hle1,rfl,hG,hG',hs⟩
 refine .z zm (.z zex (.z zex (.z zg (.z zg (.nil (.ai (.z zm (.z iA (.z zm ?_)))))))))
 refine .yu (t':=15) rfl (fun hb15=>?_) (fun hb15=>?_)
 ·refine .gFs 4 2 false rfl rfl rfl ?_
  refine .z zpT (.z zm ?_)
  refine .gFs 4 8 false rfl rfl rfl ?_
  refine .z zpT (.z zm ?_)
  refine .gFs 5 14 false rfl rfl rfl ?_
  refine .z zpT (.z zm ?_)
  refine .gFs 5 21 false rfl rfl rfl ?_
  refine .z zpT (.nil ?_)
  refine (.fj rfl (by first|rfl|exact decide_eq_true (by assumption)) ?_)
  refine .ai (.z zg (.nil ?_))
  refine .ret (rT (Fin.bI lX rfl ?_))
  exact ⟨H1,_,hle1,rfl,.inr ⟨fun h=>by have:=(hG ⟨h.st,h.wa⟩).1;simp_all,rfl⟩,hs.out⟩
 ·refine .gT rfl rfl ?_
  refine .z (zfa lh) ?_
  refine .gT rfl rfl ?_
  refine .y hs (zld af) ?_
  refine .gT rfl rfl ?_
  refine .o (.call dv rfl (bw hs) ?_);rintro _ w ⟨rfl,hs⟩
  refine .gT rfl rfl ?_
  refine .z iI (.z zpF (.z zm ?_))
  refine .bif (t':=21) rfl (fun hb21=>?_) (fun hb21=>?_)
  ·refine .gFs 4 8 false rfl rfl rfl ?_
   refine .z zpT (.z zm ?_)
   refine .gFs 5 14 false rfl rfl rfl ?_
   refine .z zpT (.z zm ?_)
   refine .gFs 5 21 false rfl rfl rfl ?_
   refine .z zpT (.nil ?_)
   refine (.fj rfl (by first|rfl|exact decide_eq_true (by assumption)) ?_)
   refine .ai (.z zg (.nil ?_))
   refine .ret (rT (Fin.bI lX rfl ?_))
   exact ⟨H1,_,hle1,rfl,.inr ⟨fun h=>by have:=h.id;simp_all,rfl⟩,hs.out⟩
  ·refine .gT rfl rfl ?_
   refine .z (zfa dm) ?_
   refine .gT rfl rfl ?_
   refine .y hs (zld af) ?_
   refine .gT rfl rfl ?_
   refine .o (.call Tryz.call106 rfl (gz hs) ?_);rintro _ w ⟨rfl,hs⟩
   refine .gT rfl rfl ?_
   refine .z iI (.z zpF (.z zm ?_))
   refine .bif (t':=27) rfl (fun hb27=>?_) (fun hb27=>?_)
   ·refine .gFs 5 14 false rfl rfl rfl ?_
    refine .z zpT (.z zm ?_)
    refine .gFs 5 21 false rfl rfl rfl ?_
    refine .z zpT (.nil ?_)
    refine (.fj rfl (by first|rfl|exact decide_eq_true (by assumption)) ?_)
    refine .ai (.z zg (.nil ?_))
    refine .ret (rT (Fin.bI lX rfl ?_))
    exact ⟨H1,_,hle1,rfl,.inr ⟨fun h=>by have:=h.src;simp_all,rfl⟩,hs.out⟩
   ·refine .gT rfl rfl ?_
    refine .z (zfa dO) ?_
    refine .gT rfl rfl ?_
    refine .z (zfa iV) ?_
    refine .gT rfl rfl ?_
    refine .y hs (zld af) ?_
    refine .gT rfl rfl ?_
    refine .o (.call dv rfl (bw hs) ?_);rintro _ w ⟨rfl,hs⟩
    refine .gT rfl rfl ?_
    refine .z iI (.z zpF (.z zm ?_))
    refine .bif (t':=34) rfl (fun hb34=>?_) (fun hb34=>?_)
    ·refine .gFs 5 21 false rfl rfl rfl ?_
     refine .z zpT (.nil ?_)
     refine (.fj rfl (by first|rfl|exact decide_eq_true (by assumption)) ?_)
     refine .ai (.z zg (.nil ?_))
     refine .ret (rT (Fin.bI lX rfl ?_))
     exact ⟨H1,_,hle1,rfl,.inr ⟨fun h=>by have:=h.al;simp_all,rfl⟩,hs.out⟩
    ·refine .gT rfl rfl ?_
     refine .z (zfa dO) ?_
     refine .gT rfl rfl ?_
     refine .z (zfa iU) ?_
     refine .gT rfl rfl ?_
     refine .y hs (zld af) ?_
     refine .gT rfl rfl ?_
     refine .o (.call dv rfl (bw hs) ?_);rintro _ w ⟨rfl,hs⟩
     refine .gT rfl rfl ?_
     refine .z iI (.z zpF (.nil ?_))
     refine (.cond rfl (fun hc40=>?_) (fun hc40=>?_))
     ·refine .ai (.z zg (.nil ?_))
      refine .ret (rT (Fin.bI lX rfl ?_))
      exact ⟨H1,_,hle1,rfl,.inr ⟨fun h=>by have:=h.up;simp_all,rfl⟩,hs.out⟩
     ·refine .skip ?_
      refine nT ?_
      refine .ai (.z zg (.nil ?_))
      refine .ret (Fin.bI lX rfl ?_)
      have hg:=hG' (by simp_all)
      exact ⟨H1,_,hle1,rfl,.inl ⟨⟨hg.1,hg.2,by simp_all,by simp_all,by simp_all,by simp_all⟩,rfl⟩,hs.out⟩
theorem jf{H:bn}{w:World}{σ:List Ent}{s:Spc}{r:Rdg}{vst vwa:Value}(hs:St H w σ)(h1:RI H vst s.st)(h2:RI H vwa s.wa):
  Cl Tryz.prog 107 [.agg #[I s.id,I s.src,vst,vwa,I s.al,I s.up],.agg #[I r.src,I r.st,I r.wa,I r.val,I r.tol,I r.tape,I r.day]] w fun v w'=>∃b:Bool,v= .bool b∧(b=true↔jt s r)∧St H w' σ:=by
 obtain ⟨ast,cst,rfl⟩:=RI.shape h1
 obtain ⟨awa,cwa,rfl⟩:=RI.shape h2
 have l1:=(RI.len h1).2.2
 have l2:=(RI.len h2).2.2
 refine Cl.of Tryz.func107 rfl Tryz.ntmps107 (by simp) (aj (k:=0) rfl (aj (k:=1) rfl (bh))) ?_
 refine .ai ?_
 refine .o (.box hs rfl rfl ?_);intro b2 w hs
 refine .o (.box hs rfl rfl ?_);intro b3 w hs
 refine .z zg (.nil (.ai (.z (zfa dX) (.y hs (zld af) ?_))))
 refine .o (.call Tryz.call106 rfl (gz hs) ?_);rintro _ w ⟨rfl,hs⟩
 refine .z zm ?_
 refine .bif (t':=8) rfl (fun hb8=>?_) (fun hb8=>?_)
 ·refine .gT rfl rfl ?_
  refine .z (zfa eD) ?_
  refine .gT rfl rfl ?_
  refine .y hs (zld af) ?_
  refine .gT rfl rfl ?_
  refine .z (zfa bA) ?_
  refine .gT rfl rfl ?_
  refine .y hs (zld ak) ?_
  refine .gT rfl rfl ?_
  refine .z (cM aa) ?_
  refine .gT rfl rfl ?_
  refine .z gM ?_
  refine .gT rfl rfl ?_
  refine .o (.call dv rfl (bw hs) ?_);rintro _ w ⟨rfl,hs⟩
  refine .z zpT (.z zm ?_)
  refine .bif (t':=17) rfl (fun hb17=>?_) (fun hb17=>?_)
  ·refine .gT rfl rfl ?_
   refine .z (zfa eC) ?_
   refine .gT rfl rfl ?_
   refine .y hs (zld af) ?_
   refine .gT rfl rfl ?_
   refine .z (zfa bg) ?_
   refine .gT rfl rfl ?_
   refine .y hs (zld ak) ?_
   refine .gT rfl rfl ?_
   refine .z (cM aa) ?_
   refine .gT rfl rfl ?_
   refine .z gM ?_
   refine .gT rfl rfl ?_
   refine .o (.call dv rfl (bw hs) ?_);rintro _ w ⟨rfl,hs⟩
   refine .z zpT (.z zm ?_)
   refine .bif (t':=26) rfl (fun hb26=>?_) (fun hb26=>?_)
   ·refine .gT rfl rfl ?_
    refine .z (zfa ck) ?_
    refine .gT rfl rfl ?_
    refine .y hs (zld af) ?_
    refine .gT rfl rfl ?_
    refine .o (.call dv rfl (bw hs) ?_);rintro _ w ⟨rfl,hs⟩
    refine .z zpT (.z zm ?_)
    refine .bif (t':=31) rfl (fun hb31=>?_) (fun hb31=>?_)
    ·refine .gT rfl rfl ?_
     refine .z (zfa cK) ?_
     refine .gT rfl rfl ?_
     refine .y hs (zld af) ?_
     refine .gT rfl rfl ?_
     refine .z (zfa ck) ?_
     refine .gT rfl rfl ?_
     refine .y hs (zld af) ?_
     refine .gT rfl rfl ?_
     have ht:0≤r.tol∧r.tol≤1000:=by simp_all
     refine .z gM ?_
     refine .gT rfl rfl ?_
     refine .o (.call dv rfl (bw hs) ?_);rintro _ w ⟨rfl,hs⟩
     refine .z zpT (.z zm ?_)
     refine .bif (t':=39) rfl (fun hb39=>?_) (fun hb39=>?_)
     ·refine .gT rfl rfl ?_
      refine .z (zfa dW) ?_
      refine .gT rfl rfl ?_
      refine .y hs (zld af) ?_
      refine .gT rfl rfl ?_
      refine .o (.call dv rfl (bw hs) ?_);rintro _ w ⟨rfl,hs⟩
      refine .z zpT (.z zm ?_)
      refine .bif (t':=44) rfl (fun hb44=>?_) (fun hb44=>?_)
      ·refine .gT rfl rfl ?_
       refine .z (zfa dV) ?_
       refine .gT rfl rfl ?_
       refine .y hs (zld af) ?_
       refine .gT rfl rfl ?_
       refine .o (.call dv rfl (bw hs) ?_);rintro _ w ⟨rfl,hs⟩
       refine .z zpT (.z zg (.nil ?_))
       refine .ret (Fin.bI jd rfl ?_)
       first
       |exact ⟨false,rfl,⟨fun h=>(by cases h),fun h=>(by obtain ⟨g1,g2,g3,g4,g5,g6,g7⟩:=h;simp_all;done)⟩,hs.out⟩
       |exact ⟨_,rfl,⟨fun h=>⟨by simp_all,by simp_all,by simp_all,by simp_all,by simp_all,by simp_all,by simpa using h⟩,fun h=>by simpa using h.day⟩,hs.out⟩
      ·refine .gFs 3 39 true rfl rfl rfl ?_
       refine .z zpF (.z zg (.nil ?_))
       refine .ret (Fin.bI jd rfl ?_)
       first
       |exact ⟨false,rfl,⟨fun h=>(by cases h),fun h=>(by obtain ⟨g1,g2,g3,g4,g5,g6,g7⟩:=h;simp_all;done)⟩,hs.out⟩
       |exact ⟨_,rfl,⟨fun h=>⟨by simp_all,by simp_all,by simp_all,by simp_all,by simp_all,by simp_all,by simpa using h⟩,fun h=>by simpa using h.day⟩,hs.out⟩
     ·refine .gFs 3 34 true rfl rfl rfl ?_
      refine .z zpF (.z zm ?_)
      refine .gFs 3 39 true rfl rfl rfl ?_
      refine .z zpF (.z zg (.nil ?_))
      refine .ret (Fin.bI jd rfl ?_)
      first
      |exact ⟨false,rfl,⟨fun h=>(by cases h),fun h=>(by obtain ⟨g1,g2,g3,g4,g5,g6,g7⟩:=h;simp_all;done)⟩,hs.out⟩
      |exact ⟨_,rfl,⟨fun h=>⟨by simp_all,by simp_all,by simp_all,by simp_all,by simp_all,by simp_all,by simpa using h⟩,fun h=>by simpa using h.day⟩,hs.out⟩
    ·refine .gFs 6 26 true rfl rfl rfl ?_
     refine .z zpF (.z zm ?_)
     refine .gFs 3 34 true rfl rfl rfl ?_
     refine .z zpF (.z zm ?_)
     refine .gFs 3 39 true rfl rfl rfl ?_
     refine .z zpF (.z zg (.nil ?_))
     refine .ret (Fin.bI jd rfl ?_)
     first
     |exact ⟨false,rfl,⟨fun h=>(by cases h),fun h=>(by obtain ⟨g1,g2,g3,g4,g5,g6,g7⟩:=h;simp_all;done)⟩,hs.out⟩
     |exact ⟨_,rfl,⟨fun h=>⟨by simp_all,by simp_all,by simp_all,by simp_all,by simp_all,by simp_all,by simpa using h⟩,fun h=>by simpa using h.day⟩,hs.out⟩
   ·refine .gFs 3 21 true rfl rfl rfl ?_
    refine .z zpF (.z zm ?_)
    refine .gFs 6 26 true rfl rfl rfl ?_
    refine .z zpF (.z zm ?_)
    refine .gFs 3 34 true rfl rfl rfl ?_
    refine .z zpF (.z zm ?_)
    refine .gFs 3 39 true rfl rfl rfl ?_
    refine .z zpF (.z zg (.nil ?_))
    refine .ret (Fin.bI jd rfl ?_)
    first
    |exact ⟨false,rfl,⟨fun h=>(by cases h),fun h=>(by obtain ⟨g1,g2,g3,g4,g5,g6,g7⟩:=h;simp_all;done)⟩,hs.out⟩
    |exact ⟨_,rfl,⟨fun h=>⟨by simp_all,by simp_all,by simp_all,by simp_all,by simp_all,by simp_all,by simpa using h⟩,fun h=>by simpa using h.day⟩,hs.out⟩
  ·refine .gFs 7 12 true rfl rfl rfl ?_
   refine .z zpF (.z zm ?_)
   refine .gFs 3 21 true rfl rfl rfl ?_
   refine .z zpF (.z zm ?_)
   refine .gFs 6 26 true rfl rfl rfl ?_
   refine .z zpF (.z zm ?_)
   refine .gFs 3 34 true rfl rfl rfl ?_
   refine .z zpF (.z zm ?_)
   refine .gFs 3 39 true rfl rfl rfl ?_
   refine .z zpF (.z zg (.nil ?_))
   refine .ret (Fin.bI jd rfl ?_)
   first
   |exact ⟨false,rfl,⟨fun h=>(by cases h),fun h=>(by obtain ⟨g1,g2,g3,g4,g5,g6,g7⟩:=h;simp_all;done)⟩,hs.out⟩
   |exact ⟨_,rfl,⟨fun h=>⟨by simp_all,by simp_all,by simp_all,by simp_all,by simp_all,by simp_all,by simpa using h⟩,fun h=>by simpa using h.day⟩,hs.out⟩
 ·refine .gFs 7 3 true rfl rfl rfl ?_
  refine .z zpF (.z zm ?_)
  refine .gFs 7 12 true rfl rfl rfl ?_
  refine .z zpF (.z zm ?_)
  refine .gFs 3 21 true rfl rfl rfl ?_
  refine .z zpF (.z zm ?_)
  refine .gFs 6 26 true rfl rfl rfl ?_
  refine .z zpF (.z zm ?_)
  refine .gFs 3 34 true rfl rfl rfl ?_
  refine .z zpF (.z zm ?_)
  refine .gFs 3 39 true rfl rfl rfl ?_
  refine .z zpF (.z zg (.nil ?_))
  refine .ret (Fin.bI jd rfl ?_)
  first
  |exact ⟨false,rfl,⟨fun h=>(by cases h),fun h=>(by obtain ⟨g1,g2,g3,g4,g5,g6,g7⟩:=h;simp_all;done)⟩,hs.out⟩
  |exact ⟨_,rfl,⟨fun h=>⟨by simp_all,by simp_all,by simp_all,by simp_all,by simp_all,by simp_all,by simpa using h⟩,fun h=>by simpa using h.day⟩,hs.out⟩
theorem mL{H:bn}{w:World}{σ:List Ent}{c:Cmp}(hs:St H w σ):
  Cl Tryz.prog 108 [.agg #[I c.src,I c.tape,I c.fr,I c.to,I c.lo,I c.hi]] w fun v w'=>∃b:Bool,v= .bool b∧(b=true↔pa c)∧St H w' σ:=by
 refine Cl.of Tryz.func108 rfl Tryz.ntmps108 (by simp) (aj (k:=0) rfl (bh)) ?_
 refine .ai ?_
 refine .o (.box hs rfl rfl ?_);intro b1 w hs
 refine .z zg (.nil (.ai (.z (zfa fW) (.y hs (zld af) ?_))))
 refine .o (.call Tryz.call106 rfl (gz hs) ?_);rintro _ w ⟨rfl,hs⟩
 refine .z zm ?_
 refine .bif (t':=6) rfl (fun hb6=>?_) (fun hb6=>?_)
 ·refine .gT rfl rfl ?_
  refine .z (zfa ic) ?_
  refine .gT rfl rfl ?_
  refine .y hs (zld af) ?_
  refine .gT rfl rfl ?_
  refine .o (.call dv rfl (bw hs) ?_);rintro _ w ⟨rfl,hs⟩
  refine .z zpT (.z zm ?_)
  refine .bif (t':=11) rfl (fun hb11=>?_) (fun hb11=>?_)
  ·refine .gT rfl rfl ?_
   refine .z (zfa fc) ?_
   refine .gT rfl rfl ?_
   refine .y hs (zld af) ?_
   refine .gT rfl rfl ?_
   refine .z (zfa eG) ?_
   refine .gT rfl rfl ?_
   refine .y hs (zld af) ?_
   refine .gT rfl rfl ?_
   refine .o (.call dv rfl (bw hs) ?_);rintro _ w ⟨rfl,hs⟩
   refine .z zpT (.z zm ?_)
   refine .bif (t':=18) rfl (fun hb18=>?_) (fun hb18=>?_)
   ·refine .gT rfl rfl ?_
    refine .z (zfa eG) ?_
    refine .gT rfl rfl ?_
    refine .y hs (zld af) ?_
    refine .gT rfl rfl ?_
    refine .o (.call dv rfl (bw hs) ?_);rintro _ w ⟨rfl,hs⟩
    refine .z zpT (.z zm ?_)
    refine .bif (t':=23) rfl (fun hb23=>?_) (fun hb23=>?_)
    ·refine .gT rfl rfl ?_
     refine .z (zfa eF) ?_
     refine .gT rfl rfl ?_
     refine .y hs (zld af) ?_
     refine .gT rfl rfl ?_
     refine .z (zfa eE) ?_
     refine .gT rfl rfl ?_
     refine .y hs (zld af) ?_
     refine .gT rfl rfl ?_
     refine .o (.call dv rfl (bw hs) ?_);rintro _ w ⟨rfl,hs⟩
     refine .z zpT (.z zm ?_)
     refine .bif (t':=30) rfl (fun hb30=>?_) (fun hb30=>?_)
     ·refine .gT rfl rfl ?_
      refine .z (zfa eE) ?_
      refine .gT rfl rfl ?_
      refine .y hs (zld af) ?_
      refine .gT rfl rfl ?_
      refine .o (.call dv rfl (bw hs) ?_);rintro _ w ⟨rfl,hs⟩
      refine .z zpT (.z zg (.nil ?_))
      refine .ret (Fin.bI kE rfl ?_)
      first
      |exact ⟨false,rfl,⟨fun h=>(by cases h),fun h=>(by obtain ⟨g1,g2,g3,g4,g5,g6⟩:=h;simp_all;omega)⟩,hs.out⟩
      |exact ⟨false,rfl,⟨fun h=>(by cases h),fun h=>(by obtain ⟨g1,g2,g3,g4,g5,g6⟩:=h;simp_all;done)⟩,hs.out⟩
      |exact ⟨_,rfl,⟨fun h=>⟨by simp_all,by simp_all,by simp_all,by simp_all,by simp_all,(by simpa using h:_∧_).2⟩,fun h=>by have:=h.lo;have:=h.hi;simp;omega⟩,hs.out⟩
     ·refine .gFs 3 27 true rfl rfl rfl ?_
      refine .z zpF (.z zg (.nil ?_))
      refine .ret (Fin.bI kE rfl ?_)
      first
      |exact ⟨false,rfl,⟨fun h=>(by cases h),fun h=>(by obtain ⟨g1,g2,g3,g4,g5,g6⟩:=h;simp_all;omega)⟩,hs.out⟩
      |exact ⟨false,rfl,⟨fun h=>(by cases h),fun h=>(by obtain ⟨g1,g2,g3,g4,g5,g6⟩:=h;simp_all;done)⟩,hs.out⟩
      |exact ⟨_,rfl,⟨fun h=>⟨by simp_all,by simp_all,by simp_all,by simp_all,by simp_all,(by simpa using h:_∧_).2⟩,fun h=>by have:=h.lo;have:=h.hi;simp;omega⟩,hs.out⟩
    ·refine .gFs 5 20 true rfl rfl rfl ?_
     refine .z zpF (.z zm ?_)
     refine .gFs 3 27 true rfl rfl rfl ?_
     refine .z zpF (.z zg (.nil ?_))
     refine .ret (Fin.bI kE rfl ?_)
     first
     |exact ⟨false,rfl,⟨fun h=>(by cases h),fun h=>(by obtain ⟨g1,g2,g3,g4,g5,g6⟩:=h;simp_all;omega)⟩,hs.out⟩
     |exact ⟨false,rfl,⟨fun h=>(by cases h),fun h=>(by obtain ⟨g1,g2,g3,g4,g5,g6⟩:=h;simp_all;done)⟩,hs.out⟩
     |exact ⟨_,rfl,⟨fun h=>⟨by simp_all,by simp_all,by simp_all,by simp_all,by simp_all,(by simpa using h:_∧_).2⟩,fun h=>by have:=h.lo;have:=h.hi;simp;omega⟩,hs.out⟩
   ·refine .gFs 3 15 true rfl rfl rfl ?_
    refine .z zpF (.z zm ?_)
    refine .gFs 5 20 true rfl rfl rfl ?_
    refine .z zpF (.z zm ?_)
    refine .gFs 3 27 true rfl rfl rfl ?_
    refine .z zpF (.z zg (.nil ?_))
    refine .ret (Fin.bI kE rfl ?_)
    first
    |exact ⟨false,rfl,⟨fun h=>(by cases h),fun h=>(by obtain ⟨g1,g2,g3,g4,g5,g6⟩:=h;simp_all;omega)⟩,hs.out⟩
    |exact ⟨false,rfl,⟨fun h=>(by cases h),fun h=>(by obtain ⟨g1,g2,g3,g4,g5,g6⟩:=h;simp_all;done)⟩,hs.out⟩
    |exact ⟨_,rfl,⟨fun h=>⟨by simp_all,by simp_all,by simp_all,by simp_all,by simp_all,(by simpa using h:_∧_).2⟩,fun h=>by have:=h.lo;have:=h.hi;simp;omega⟩,hs.out⟩
  ·refine .gFs 5 8 true rfl rfl rfl ?_
   refine .z zpF (.z zm ?_)
   refine .gFs 3 15 true rfl rfl rfl ?_
   refine .z zpF (.z zm ?_)
   refine .gFs 5 20 true rfl rfl rfl ?_
   refine .z zpF (.z zm ?_)
   refine .gFs 3 27 true rfl rfl rfl ?_
   refine .z zpF (.z zg (.nil ?_))
   refine .ret (Fin.bI kE rfl ?_)
   first
   |exact ⟨false,rfl,⟨fun h=>(by cases h),fun h=>(by obtain ⟨g1,g2,g3,g4,g5,g6⟩:=h;simp_all;omega)⟩,hs.out⟩
   |exact ⟨false,rfl,⟨fun h=>(by cases h),fun h=>(by obtain ⟨g1,g2,g3,g4,g5,g6⟩:=h;simp_all;done)⟩,hs.out⟩
   |exact ⟨_,rfl,⟨fun h=>⟨by simp_all,by simp_all,by simp_all,by simp_all,by simp_all,(by simpa using h:_∧_).2⟩,fun h=>by have:=h.lo;have:=h.hi;simp;omega⟩,hs.out⟩
 ·refine .gFs 3 3 true rfl rfl rfl ?_
  refine .z zpF (.z zm ?_)
  refine .gFs 5 8 true rfl rfl rfl ?_
  refine .z zpF (.z zm ?_)
  refine .gFs 3 15 true rfl rfl rfl ?_
  refine .z zpF (.z zm ?_)
  refine .gFs 5 20 true rfl rfl rfl ?_
  refine .z zpF (.z zm ?_)
  refine .gFs 3 27 true rfl rfl rfl ?_
  refine .z zpF (.z zg (.nil ?_))
  refine .ret (Fin.bI kE rfl ?_)
  first
  |exact ⟨false,rfl,⟨fun h=>(by cases h),fun h=>(by obtain ⟨g1,g2,g3,g4,g5,g6⟩:=h;simp_all;omega)⟩,hs.out⟩
  |exact ⟨false,rfl,⟨fun h=>(by cases h),fun h=>(by obtain ⟨g1,g2,g3,g4,g5,g6⟩:=h;simp_all;done)⟩,hs.out⟩
  |exact ⟨_,rfl,⟨fun h=>⟨by simp_all,by simp_all,by simp_all,by simp_all,by simp_all,(by simpa using h:_∧_).2⟩,fun h=>by have:=h.lo;have:=h.hi;simp;omega⟩,hs.out⟩
theorem fF{H:bn}{w:World}{σ:List Ent}{s:Spc}{vst vwa:Value}(hs:St H w σ)(h1:RI H vst s.st)(h2:RI H vwa s.wa)(hb:s.st.length≤1000∧s.wa.length≤1000):
  Cl Tryz.prog 91 [.agg #[I s.id,I s.src,vst,vwa,I s.al,I s.up]] w fun v w'=>v=I (s.many:Int)∧St H w' σ:=by
 obtain ⟨ast,cst,rfl⟩:=RI.shape h1
 obtain ⟨awa,cwa,rfl⟩:=RI.shape h2
 have hm:=kS (a:=(s.st.length:Int)) (b:=(s.wa.length:Int)) (A:=1000) (B:=1000) (by omega) (by omega)
 refine Cl.of Tryz.func91 rfl Tryz.ntmps91 (by simp) (aj (k:=0) rfl (bh)) ?_
 refine .ai ?_
 refine .o (.box hs rfl rfl ?_);intro b1 w hs
 refine .z zg (.nil (.ai (.z (zfa bA) (.y hs (zld ak) (.z (cM aa) (.z (zfa bg) (.y hs (zld ak) (.z (cM aa) (.z j7 ?_)))))))))
 refine .z zg (.nil ?_)
 refine .ret (Fin.bI Tryz.results91 rfl ?_)
 exact ⟨by unfold Spc.many;rw [Int.natCast_mul],hs.out⟩
theorem j5{H:bn}{w:World}{σ:List Ent}{s:Spc}{vst vwa:Value}{a b:Int}(hs:St H w σ)(h2:RI H vwa s.wa)(hb:s.wa.length≤1000)(ha: -1000≤a∧a≤1000)(hb': -1000≤b∧b≤1000):
  Cl Tryz.prog 118 [.agg #[I s.id,I s.src,vst,vwa,I s.al,I s.up],I a,I b] w fun v w'=>v=I (1+a*s.wa.length+b)∧St H w' σ:=by
 obtain ⟨awa,cwa,rfl⟩:=RI.shape h2
 have hm:=kS (a:=a) (b:=(s.wa.length:Int)) (A:=1000) (B:=1000) (by omega) (by omega)
 refine Cl.of Tryz.func118 rfl Tryz.ntmps118 (by simp) (aj (k:=0) rfl (aj (k:=1) rfl (aj (k:=2) rfl (bh)))) ?_
 refine .ai ?_
 refine .o (.box hs rfl rfl ?_);intro b3 w hs
 refine .z zg (.nil (.ai (.z zm (.z (zfa bg) (.y hs (zld ak) (.z (cM aa) (.z j7 (.z cA (.z zm ?_)))))))))
 refine .z cA (.z zg (.nil ?_))
 refine .ret (Fin.bI Tryz.results118 rfl ?_)
 exact ⟨rfl,hs.out⟩
theorem eU{H:bn}{w:World}{σ:List Ent}{r:Rdg}(hs:St H w σ):
  Cl Tryz.prog 114 [.agg #[I r.src,I r.st,I r.wa,I r.val,I r.tol,I r.tape,I r.day]] w fun v w'=>v= .agg #[I r.tape,I r.day]∧St H w' σ:=by
 refine Cl.of Tryz.func114 rfl Tryz.ntmps114 (by simp) (aj (k:=0) rfl (bh)) ?_
 refine .ai ?_
 refine .o (.box hs rfl rfl ?_);intro b1 w hs
 refine .o (.alloc hs ig rfl ?_);intro b2 w hs
 refine .nil (.ai (.z (zfa dW) (.y hs (zld af) (.z (zfa dV) (.y hs (zld af) (.z (zbd [_,_] fJ) ?_))))))
 refine .o (.aS (vs:=[_,_]) hs rfl rfl aP ?_);intro w hs
 refine .nil ?_
 refine .ret ?_
 exact Fin.iG [] [] hs fun w hs=>⟨_,results1 Tryz.results114 (dH (vs:=[_,_]) hs rfl bV aP),rfl,hs.out⟩
theorem lK{H:bn}{w:World}{σ:List Ent}{a b:Int}(hs:St H w σ)(ha:0≤a∧a≤100000)(hb:0≤b∧b≤100000):
  Cl Tryz.prog 230 [I a,I b] w fun v w'=>v=I (jS a b)∧St H w' σ:=by
 have hm:=kS (a:=a) (b:=b) (A:=100000) (B:=100000) (by omega) (by omega)
 have h0:=Int.mul_nonneg ha.1 hb.1
 have hq0:0≤(a*b+999).tdiv 1000:=Int.tdiv_nonneg (by omega) (by omega)
 have hq1:(a*b+999).tdiv 1000≤a*b+999:=by rw [Int.tdiv_eq_ediv_of_nonneg (by omega)];omega
 refine Cl.of Tryz.func230 rfl Tryz.ntmps230 (by simp) (aj (k:=0) rfl (aj (k:=1) rfl (bh))) ?_
 refine .ai (.z zg (.nil (.ai (.z zm (.z zm (.z j7 (.z cA ?_)))))))
 refine .q hs (uF rfl rfl (by omega) (by omega)) ?_
 refine .z Ad (.z zg (.nil ?_))
 refine .ret (Fin.bI Tryz.results230 rfl ?_)
 exact ⟨rfl,hs⟩
def wA(s:Spc):List (List Value):=(List.range s.many).map fun p=>[Value.agg #[I ((p/s.wa.length:Nat):Int),I ((p%s.wa.length:Nat):Int),I ((p+1:Nat):Int)]]
theorem eH(s:Spc):(wA s).length=s.many:=by simp [wA]
theorem nN{s:Spc}{p:Nat}(h:p<(wA s).length):(wA s)[p]=[Value.agg #[I ((p/s.wa.length:Nat):Int),I ((p%s.wa.length:Nat):Int),I ((p+1:Nat):Int)]]:=by simp [wA]
theorem pK{H:bn}{b:Nat}{s:Spc}{vst vwa:Value}(hb:Row H b [I s.id,I s.src,vst,vwa,I s.al,I s.up])(h1:RI H vst s.st)(h2:RI H vwa s.wa)(hbd:s.st.length≤1000∧s.wa.length≤1000):
  Iter Tryz.prog 190 [.pointer (some ⟨b,0,none⟩)] H (wA s):=by
 intro ly II Ix hmI _ hy H0 σb0 σf w hle hI0 hs
 obtain ⟨ast,cst,rfl⟩:=RI.shape h1
 obtain ⟨awa,cwa,rfl⟩:=RI.shape h2
 have g2:cellAt H0 b 2=some (.slice ast s.st.length cst):=cellAt.mono (hb.at 2) hle
 have g3:cellAt H0 b 3=some (.slice awa s.wa.length cwa):=cellAt.mono (hb.at 3) hle
 have hm:s.many≤1000000:=Nat.mul_le_mul hbd.1 hbd.2
 refine Cl.of Tryz.func190 rfl Tryz.ntmps190 (by simp) (aj (k:=0) rfl (aj (k:=1) rfl (bh))) ?_
 refine .ai (.z zg (.nil (.ai (.z (zfa bA) (.y hs (zld ak) (.z (cM aa) (.z zm (.nil ?_))))))))
 refine .for (N:=s.st.length) (J:=fun i fr w=>fr=[(3,I ((i*s.wa.length:Nat):Int)),(0,.func (.yield ly) #[] #[]),(1,.pointer (some ⟨b,0,none⟩))]∧∃H1 σb,HLe H H1∧HLe H0 H1∧II (i*s.wa.length) H1 σb∧St H1 w (σb++σf)) (by omega) ?_ ?_ ?_
 ·exact .mk ⟨by rw [Nat.zero_mul],H0,σb0,hle,HLe.refl _,by rw [Nat.zero_mul];exact hI0,hs⟩
 ·rintro i fr w hi ⟨rfl,H1,σb,hle1,hle0,hI,hs⟩
  have h23:=cellAt.mono g3 hle0
  refine .block (.ai (.z zm (.z zg (.nil (.ai (.z (zfa bg) (.y hs (zld ak) (.z (cM aa) (.z zm ?_)))))))))
  refine .nil ?_
  refine .for (N:=s.wa.length) (J:=fun k fr w=>fr=[(3,I ((i*s.wa.length+k:Nat):Int)),(4,I (i:Int)),(9,I (i:Int)),(8,I (s.st.length:Int)),(0,.func (.yield ly) #[] #[]),(1,.pointer (some ⟨b,0,none⟩))]∧∃H3 σb,HLe H1 H3∧II (i*s.wa.length+k) H3 σb∧St H3 w (σb++σf)) (by omega) ?_ ?_ ?_
  ·exact .mk ⟨rfl,H1,σb,HLe.refl _,hI,hs⟩
  ·rintro k fr w hk ⟨rfl,H3,σb3,hle3,hI3,hs⟩
   obtain ⟨d1,d2⟩:=DH (nw:=s.wa.length) (i:=i) (k:=k) hk
   have hlt:=u_lt hi hk
   refine .block (.ai (.z zm (.z zg (.nil (.ai (.z zm (.z cA (.z zg (.nil ?_)))))))))
   refine .ai (.z zm (.z zm (.z zm (.z zm (.z (zbd [_,_,_] qc) ?_)))))
   have hk':i*s.wa.length+k<(wA s).length:=by rw [eH];exact hlt
   have hyd:=hy (i*s.wa.length+k) hk' H3 σb3 σf w (hle1.trans hle3) hI3 hs
   rw [nN hk',d1,d2,show ((i*s.wa.length+k+1:Nat):Int)=((i*s.wa.length+k:Nat):Int)+1 by omega] at hyd
   refine .o (.yield rfl rfl hyd ?_);rintro v25 w ⟨H5,σ5,g1,hs,g3'⟩
   obtain ⟨bb,rfl,gT,gF⟩:=oA g3'
   refine .z iI (.nil ?_)
   refine (.cond rfl (fun hc26=>?_) (fun hc26=>?_))
   ·refine .ret (rB (rT (rB (rB (rT (rB (Fin.ret0 Tryz.results190 ?_)))))))
    exact ⟨H5,σ5,hle0.trans (hle3.trans g1),hs,.inr (gF (by simpa using hc26))⟩
   ·refine .skip ?_
    refine nB (nT ?_)
    exact .mk ⟨rfl,H5,σ5,hle3.trans g1,gT (by simpa using hc26),hs⟩
  ·rintro fr w ⟨rfl,H3,σb3,hle3,hI3,hs⟩
   have e:i*s.wa.length+s.wa.length=(i+1)*s.wa.length:=by rw [Nat.add_mul,Nat.one_mul]
   rw [e] at hI3 ⊢
   refine nB (nT ?_)
   exact .mk ⟨rfl,H3,σb3,hle1.trans hle3,hle0.trans hle3,hI3,hs⟩
 ·rintro fr w ⟨rfl,H1,σb,hle1,hle0,hI,hs⟩
  exact Fin.xC Tryz.results190 ⟨H1,σb,hle0,hs,.inl (by rw [eH];exact hI)⟩
theorem fV{H:bn}{w:World}{σ:List Ent}{s:Spc}{vst vwa:Value}(hs:St H w σ)(h1:RI H vst s.st)(h2:RI H vwa s.wa)(hbd:s.st.length≤1000∧s.wa.length≤1000):
  Cl Tryz.prog 103 [.agg #[I s.id,I s.src,vst,vwa,I s.al,I s.up]] w fun u w'=>∃H1 b,HLe H H1∧u= .func (.func 190) #[] #[.pointer (some ⟨b,0,none⟩)]∧Iter Tryz.prog 190 [.pointer (some ⟨b,0,none⟩)] H1 (wA s)∧St H1 w' σ:=by
 obtain ⟨ast,cst,rfl⟩:=RI.shape h1
 obtain ⟨awa,cwa,rfl⟩:=RI.shape h2
 refine Cl.of Tryz.func103 rfl Tryz.ntmps103 (by simp) (aj (k:=0) rfl (bh)) ?_
 refine .ai ?_
 refine .o (.box hs rfl rfl ?_);intro b1 w hs
 refine .z zg (.nil (.ai ?_))
 refine .q hs (dC (f:=[]) (c:=[_]) rfl rfl) ?_
 refine .z zg (.nil ?_)
 refine .ret (Fin.bI Tryz.results103 rfl ?_)
 obtain ⟨H1,g1,g2,hs⟩:=hs.cP .here
 exact ⟨H1,b1,g1,rfl,pK g2 (h1.mono g1) (h2.mono g1) hbd,hs⟩
set_option maxRecDepth 100000 in
theorem pn:Tryz.prog.stoodInHeld 49=false:=by kernel_rfl
set_option maxRecDepth 100000 in
theorem po:Tryz.prog.eqGuardType Tryz.prog.depth 49=false:=by kernel_rfl
theorem oF{H:bn}{w:World}{σ:List Ent}{v:Value}{en:Ent}{xs:List TD}{g:Nat}{cap:List Value}(q:TD→Bool)(hs:St H w (en::σ))(hO:cu 2 v (tdc xs).flatten en)(hl:xs.length≤1000000)(hc:∀args w,(callFunc g args).run Tryz.prog w= .ok (.enter g args) w)
  (hp:∀w (t:TD),St H w (en::σ)→Cl Tryz.prog g ([.agg #[I t.tape,I t.day]]++cap) w fun u w'=>u= .bool (q t)∧St H w' (en::σ)):
  Cl Tryz.prog 229 [v,.func (.func g) #[] cap.toArray] w fun u w'=>∃i:Int,u=I i∧(0≤i↔∃x∈xs,q x=true)∧St H w' (en::σ):=by
 obtain ⟨a,c,rfl⟩:=hO.kj (k9 xs) (by omega)
 rw [dk] at hO ⊢
 refine Cl.of Tryz.func229 rfl Tryz.ntmps229 (by simp) (aj (k:=0) rfl (aj (k:=1) rfl (bh))) ?_
 refine .ai (.z zg (.nil (.seq (.ai (.z zm (.z (cM aF) (.z zm (.nil ?_))))))))
 refine .for (N:=xs.length) (J:=fun k fr w=>fr=[(1,.func (.func g) #[] cap.toArray),(0,.slice a xs.length c)]∧(∀j<k,∀y,xs[j]? =some y→¬q y=true)∧St H w (en::σ)) (by omega) ?_ ?_ ?_
 ·exact .mk ⟨rfl,fun j hj=>by omega,hs⟩
 ·rintro k fr w hk ⟨rfl,hno,hs⟩
  obtain ⟨x,hx⟩:=nth hk
  obtain ⟨b,c',sp,hv,rfl,_⟩:=hO.Eo (k9 xs) (by omega) (by rw [dk];omega)
  rw [dk] at hv
  cases hv
  refine .block (.ai (.z zm (.z zg (.nil (.ai (.z zm (.z zm (.z zm (.z (nR aF aP) ?_)))))))))
  refine .q hs (kq (vs:=x.c) rfl bV aP .here (uI (k9 xs) (xO hx) sp)) ?_
  refine .o (.p5 (first:=[]) (cap:=cap) rfl rfl hc (hp _ x hs) ?_);rintro _ w ⟨rfl,hs⟩
  refine .nil ?_
  refine (.cond rfl (fun hc16=>?_) (fun hc16=>?_))
  ·refine .ai (.z zm (.z zg (.nil ?_)))
   refine .ret (rB (rT (rB (rT (Fin.bI Tryz.results229 rfl ?_)))))
   exact ⟨_,rfl,⟨fun _=>⟨x,List.mem_of_getElem? hx,hc16⟩,fun _=>by omega⟩,hs⟩
  ·refine .skip ?_
   refine nB (nT ?_)
   exact .mk ⟨rfl,eK hno hx (by simpa using hc16),hs⟩
 ·rintro fr w ⟨rfl,hno,hs⟩
  refine nT ?_
  refine .ai (.z zg (.nil ?_))
  refine .ret (Fin.bI Tryz.results229 rfl ?_)
  exact ⟨_,rfl,⟨fun h=>by omega,fun ⟨x,h1,h2⟩=>by
   obtain ⟨j,hj⟩:=List.getElem?_of_mem h1
   exact (hno j (List.getElem?_eq_some_iff.1 hj).1 x hj h2).elim⟩,hs⟩
theorem mJ{H:bn}{w:World}{σ:List Ent}{v:Value}{en:Ent}{xs:List TD}{g:Nat}{cap:List Value}(q:TD→Bool)(hs:St H w (en::σ))(hO:cu 2 v (tdc xs).flatten en)(hl:xs.length≤1000000)(hc:∀args w,(callFunc g args).run Tryz.prog w= .ok (.enter g args) w)
  (hp:∀w (t:TD),St H w (en::σ)→Cl Tryz.prog g ([.agg #[I t.tape,I t.day]]++cap) w fun u w'=>u= .bool (q t)∧St H w' (en::σ)):
  Cl Tryz.prog 172 [v,.func (.func g) #[] cap.toArray] w fun u w'=>∃b:Bool,u= .bool b∧(b=true↔∃x∈xs,q x=true)∧St H w' (en::σ):=by
 refine Cl.of Tryz.func172 rfl Tryz.ntmps172 (by simp) (aj (k:=0) rfl (aj (k:=1) rfl (bh))) ?_
 refine .ai (.z zg (.nil (.ai (.z zm (.z zm ?_)))))
 refine .o (.call Tryz.call229 rfl (oF q hs hO hl hc hp) ?_);rintro _ w ⟨i,rfl,hi,hs⟩
 refine .z wI (.z zg (.nil ?_))
 refine .ret (Fin.bI Tryz.results172 rfl ?_)
 exact ⟨_,rfl,by simp only [decide_eq_true_eq];exact hi,hs⟩
theorem m6{H:bn}{w:World}{σ:List Ent}{v:Value}{xs:List TD}{t:TD}(hs:St H w σ)(hr:RTd H v xs)(hl:xs.length≤1000000):
  Cl Tryz.prog 89 [v,.agg #[I t.tape,I t.day]] w fun u w'=>u=I (gS xs t)∧St H w' σ:=by
 obtain ⟨a,c,rfl⟩:=RTd.shape hr
 refine Cl.of Tryz.func89 rfl Tryz.ntmps89 (by simp) (aj (k:=0) rfl (aj (k:=1) rfl (bh))) ?_
 refine .ai ?_
 refine .o (.box hs rfl rfl ?_);intro b3 w hs
 refine .z zg (.nil (.seq (.ai (.z zm (.z (cM aF) (.z zm (.nil ?_)))))))
 refine .for (N:=xs.length) (J:=fun k fr w=>fr=[(0,.slice a xs.length c),(3,.pointer (some ⟨b3,0,none⟩))]∧(∀j<k,∀y,xs[j]? =some y→¬y=t)∧St H w (.blk b3 [I t.tape,I t.day]::σ)) (by omega) ?_ ?_ ?_
 ·exact .mk ⟨rfl,fun j hj=>by omega,hs⟩
 ·rintro k fr w hk ⟨rfl,hno,hs⟩
  obtain ⟨x,hx⟩:=nth hk
  refine .block (.ai (.z zm (.z zg (.nil ?_))))
  refine .seq (.draw mix rfl hs ?_);intro w hs
  refine .ys 0 rfl hs [_,_] bV aP ?_;refine .z 1 rfl zm ?_;refine .z 2 rfl zm ?_
  refine .ixX (enc:=TD.c) (i:=3) hs rfl (by kernel_rfl) .none hr rfl rfl aF aP hx (by first|rfl|assumption|omega) ?_;intro b14 o14 hc14
  refine .r (i:=4) hs rfl (by kernel_rfl) .none (cj (vs:=x.c) rfl bV aP hc14) ?_
  refine .p (i:=5) rfl (by kernel_rfl) .none (iN pn po ez (fun f hf=>by
   simp only [List.mem_cons,List.not_mem_nil,or_false] at hf
   rcases hf with rfl|rfl<;>exact ⟨by decide,aK,af⟩) rfl rfl) ?_
  refine .done (by kernel_rfl) hs ?_
  refine (.cond rfl (fun hc16=>?_) (fun hc16=>?_))
  ·refine .ai (.z zm (.z zg (.nil ?_)))
   refine .ret (rB (rT (rB (rT (Fin.bI wm rfl ?_)))))
   have e:x=t:=Aq.1 (by have:=of_decide_eq_true hc16;exact ⟨this.1.symm,this.2.symm⟩)
   subst e
   exact ⟨by rw [mY hx fun j hj h=>hno j hj _ h rfl],hs.tail⟩
  ·refine .skip ?_
   refine nB (nT ?_)
   exact .mk ⟨rfl,eK hno hx (fun e=>by subst e;simp at hc16),hs⟩
 ·rintro fr w ⟨rfl,hno,hs⟩
  refine nT ?_
  refine .ai (.z zg (.nil ?_))
  refine .ret (Fin.bI wm rfl ?_)
  exact ⟨by rw [sb hno],hs.tail⟩
theorem nW{H:bn}{w:World}{σ:List Ent}{t:TD}{r:Rdg}{b:Nat}(hs:St H w σ)(hb:Row H b r.c):
  Cl Tryz.prog 173 [.agg #[I t.tape,I t.day],.pointer (some ⟨b,0,none⟩)] w fun u w'=>u= .bool (decide (t=r.td))∧St H w' σ:=by
 have hb0:bG H b 0 r.c:=hb.cells 0 r.c
 refine Cl.of Tryz.func173 rfl Tryz.ntmps173 (by simp) (aj (k:=0) rfl (aj (k:=1) rfl (bh))) ?_
 refine .ai ?_
 refine .o (.box hs rfl rfl ?_);intro b2 w hs
 refine .z zg (.nil ?_)
 refine .seq (.draw mix rfl hs ?_);intro w hs
 refine .ys 0 rfl hs [_,_] bV aP ?_;refine .ys 1 rfl hs [_,_,_,_,_,_,_] du aE ?_
 refine .e1 (i:=2) (by kernel_rfl) rfl rfl .none hs ?_
 refine .call tV rfl (eU hs) ?_;rintro _ w ⟨rfl,hs⟩
 refine .go ?_
 refine .p (i:=3) rfl (by kernel_rfl) .none (iN pn po ez (fun f hf=>by
  simp only [List.mem_cons,List.not_mem_nil,or_false] at hf
  rcases hf with rfl|rfl<;>exact ⟨by decide,aK,af⟩) rfl rfl) ?_
 refine .z 4 rfl zg ?_;refine .done (by kernel_rfl) hs ?_
 refine .ret (Fin.bI Tryz.results173 rfl ?_)
 exact ⟨by congr 1;rw [decide_eq_decide];exact Aq (t:=t) (u:=r.td),hs.tail⟩
set_option maxHeartbeats 1000000 in
theorem lJ{H:bn}{w:World}{σ:List Ent}{s:Srv}{vst vwa vr vc:Value}(hs:St H w σ)(hr:RRd H vr s.rs)(hl:s.rs.length≤1000000):
  Cl Tryz.prog 90 [.agg #[I s.sp.id,I s.sp.src,vst,vwa,I s.sp.al,I s.sp.up,vr,vc]] w fun u w'=>∃H1 en,HLe H H1∧cu 2 u (tdc s.bu).flatten en∧St H1 w' (en::σ):=by
 obtain ⟨ar,cr,rfl⟩:=RRd.shape hr
 refine Cl.of Tryz.func90 rfl Tryz.ntmps90 (by simp) (aj (k:=0) rfl (bh)) ?_
 refine .ai ?_
 refine .o (.box hs rfl rfl ?_);intro b1 w hs
 refine .z zg (.nil (.ai (.z zg (.nil (.seq (.ai (.z (zfa aJ) (.y hs (zld bp) (.z (cM au) ?_)))))))))
 refine .z zm (.nil ?_)
 refine .for (N:=s.rs.length) (J:=fun k fr w=>∃vo en H1,fr=[(7,.slice ar s.rs.length cr),(3,vo)]∧HLe H H1∧cu 2 vo (tdc (aZ (s.rs.take k))).flatten en∧St H1 w (en::σ)) (by omega) ?_ ?_ ?_
 ·exact .mk ⟨_,.nul,H,rfl,HLe.refl _,.nil 2 none,hs.tail.nul⟩
 ·rintro k fr w hk ⟨vo,en,H1,rfl,hle1,hO,hs⟩
  obtain ⟨r,hx⟩:=nth hk
  have htk:=jz hx
  have htl:=ki s.rs k (by omega)
  obtain ⟨ao,co,rfl⟩:=hO.kj (k9 _) (by omega)
  rw [dk] at hO ⊢
  refine .block (.ai ?_)
  refine .ixX (enc:=Rdg.c) hs (hr.mono hle1) rfl rfl au aE hx (by first|rfl|assumption|omega) ?_;intro b11 o11 hc11
  refine .q hs (cj (vs:=(Rdg.c r)) rfl du aE hc11) ?_
  refine .o (.alloc hs dS rfl ?_);intro b5 w hs
  refine .o (.aS (vs:=r.c) hs rfl rfl aE ?_);intro w hs
  obtain ⟨H2,hle2,r5,hs⟩:=hs.cP (b:=b5) (c:=r.c) .here
  have c5:bG H2 b5 0 r.c:=r5.cells 0 r.c
  refine .nil (.ai (.z zm ?_))
  refine .q hs (dC (f:=[]) (c:=[_]) rfl rfl) ?_
  refine .o (.call Tryz.call172 rfl (mJ (g:=173) (cap:=[.pointer (some ⟨b5,0,none⟩)]) (fun t=>decide (t=r.td)) hs hO (by omega) Tryz.call173 (fun w t hs=>nW hs r5)) ?_);rintro _ w ⟨b15,rfl,hb15,hs⟩
  refine .z iI (.nil ?_)
  refine (.cond rfl (fun hc16=>?_) (fun hc16=>?_))
  ·refine .region (.z zm ?_)
   refine .q hs (cj (vs:=r.c) rfl du aE c5) ?_
   refine .o (.call tV rfl (eU (r:=r) hs) ?_);rintro _ w ⟨rfl,hs⟩
   refine .o (.buildSlice (cells:=[_,_]) hs fD rfl rfl ?_);intro b20 w hs
   refine .o (.append (ys:=r.td.c) hs dJ rfl rfl hO (.own .here rfl rfl) (by simp [TD.c,Value.oneCell']) (fun l h=>by rw [bZ _ (k9 _),dk] at h;omega) ?_);intro v21 en21 w hO2 hs
   refine .z zg (.nil ?_)
   refine nB (nT ?_)
   have hn:r.td∉aZ (s.rs.take k):=fun hm=>by
    rw [hb15.2 ⟨_,hm,by simp⟩] at hc16;cases hc16
   rw [←sa,show aZ (s.rs.take k)++[r.td]=aZ (s.rs.take (k+1)) by rw [htk];unfold qg;rw [if_neg hn]] at hO2
   exact .mk ⟨_,_,H2,rfl,hle1.trans hle2,hO2,hs.sub (by repeat (first|exact Sub.refl _|constructor|apply Sub.weaken))⟩
  ·refine .skip ?_
   refine nB (nT ?_)
   have hm:r.td∈aZ (s.rs.take k):=by
    obtain ⟨x,h1,h2⟩:=hb15.1 (by simpa using hc16)
    rw [←of_decide_eq_true h2];exact h1
   exact .mk ⟨_,_,H2,rfl,hle1.trans hle2,by rw [htk];unfold qg;rw [if_pos hm];exact hO,hs⟩
 ·rintro fr w ⟨vo,en,H1,rfl,hle1,hO,hs⟩
  rw [List.take_length] at hO
  refine nT ?_
  refine .ai (.z zm (.z zg (.nil ?_)))
  refine .ret (Fin.bI Tryz.results90 rfl ?_)
  exact ⟨H1,en,hle1,hO,hs⟩
theorem iP{H:bn}{w:World}{σ:List Ent}{s:Srv}{vst vwa vr vc:Value}(hs:St H w σ)(hr:RRd H vr s.rs)(hl:s.rs.length≤1000000):
  Cl Tryz.prog 90 [.agg #[I s.sp.id,I s.sp.src,vst,vwa,I s.sp.al,I s.sp.up,vr,vc]] w fun u w'=>∃H1,HLe H H1∧RTd H1 u s.bu∧St H1 w' σ:=by
 refine (lJ hs hr hl).mono ?_
 rintro u w' ⟨H1,en,hle1,hO,hs⟩
 have htl:=cF s.rs
 have htl':s.bu.length≤1000000:=by unfold Srv.bu;omega
 obtain ⟨H2,hle2,hR,hs⟩:=cu.cP (m:=2) hO (k9 _) (by omega) (by rw [dk];omega) hs .here
 exact ⟨H2,hle1.trans hle2,hR,hs⟩
theorem py{H:bn}{w:World}{σ:List Ent}{v:Value}{en:Ent}{xs:List TD}{t:TD}(hs:St H w (en::σ))(hO:cu 2 v (tdc xs).flatten en)(hl:xs.length≤1000000):
  Cl Tryz.prog 89 [v,.agg #[I t.tape,I t.day]] w fun u w'=>u=I (gS xs t)∧St H w' (en::σ):=by
 obtain ⟨a,c,rfl⟩:=hO.kj (k9 xs) (by omega)
 rw [dk] at hO ⊢
 refine Cl.of Tryz.func89 rfl Tryz.ntmps89 (by simp) (aj (k:=0) rfl (aj (k:=1) rfl (bh))) ?_
 refine .ai ?_
 refine .o (.box hs rfl rfl ?_);intro b3 w hs
 refine .z zg (.nil (.seq (.ai (.z zm (.z (cM aF) (.z zm (.nil ?_)))))))
 refine .for (N:=xs.length) (J:=fun k fr w=>fr=[(0,.slice a xs.length c),(3,.pointer (some ⟨b3,0,none⟩))]∧(∀j<k,∀y,xs[j]? =some y→¬y=t)∧St H w (.blk b3 [I t.tape,I t.day]::en::σ)) (by omega) ?_ ?_ ?_
 ·exact .mk ⟨rfl,fun j hj=>by omega,hs⟩
 ·rintro k fr w hk ⟨rfl,hno,hs⟩
  obtain ⟨x,hx⟩:=nth hk
  obtain ⟨b,c',sp,hv,rfl,_⟩:=hO.Eo (k9 xs) (by omega) (by rw [dk];omega)
  rw [dk] at hv
  cases hv
  refine .block (.ai (.z zm (.z zg (.nil ?_))))
  refine .seq (.draw mix rfl hs ?_);intro w hs
  refine .ys 0 rfl hs [_,_] bV aP ?_;refine .z 1 rfl zm ?_;refine .z 2 rfl zm ?_;refine .z 3 rfl (nR aF aP) ?_
  refine .yd (i:=4) (vs:=x.c) hs rfl (by kernel_rfl) .none rfl bV aP ?_ (hv:=uI (k9 xs) (xO hx) sp)
  refine .p (i:=5) rfl (by kernel_rfl) .none (iN pn po ez (fun f hf=>by
   simp only [List.mem_cons,List.not_mem_nil,or_false] at hf
   rcases hf with rfl|rfl<;>exact ⟨by decide,aK,af⟩) rfl rfl) ?_
  refine .done (by kernel_rfl) hs ?_
  refine (.cond rfl (fun hc16=>?_) (fun hc16=>?_))
  ·refine .ai (.z zm (.z zg (.nil ?_)))
   refine .ret (rB (rT (rB (rT (Fin.bI wm rfl ?_)))))
   have e:x=t:=Aq.1 (by have:=of_decide_eq_true hc16;exact ⟨this.1.symm,this.2.symm⟩)
   subst e
   exact ⟨by rw [mY hx fun j hj h=>hno j hj _ h rfl],hs.tail⟩
  ·refine .skip ?_
   refine nB (nT ?_)
   exact .mk ⟨rfl,eK hno hx (fun e=>by subst e;simp at hc16),hs⟩
 ·rintro fr w ⟨rfl,hno,hs⟩
  refine nT ?_
  refine .ai (.z zg (.nil ?_))
  refine .ret (Fin.bI wm rfl ?_)
  exact ⟨by rw [sb hno],hs.tail⟩
theorem fp{H:bn}{w:World}{σ:List Ent}{x0 x1 x2 x3 x4 x5 x6 x7 x8 vl:Value}{en:Ent}{bm:Nat}{ls:List Lim}{a b hi lo by_:Int}(hs:St H w (.blk bm [x0,x1,x2,x3,x4,x5,x6,x7,x8,vl]::en::σ))(hO:cu 4 vl (fQ ls) en)(hl:ls.length≤100000):
  Cl Tryz.prog 115 [.pointer (some ⟨bm,0,none⟩),I a,I b,I hi,I lo,I by_] w fun _ w'=>∃vl' en',cu 4 vl' (fQ (ls++two a b hi lo by_)) en'∧St H w' (.blk bm [x0,x1,x2,x3,x4,x5,x6,x7,x8,vl']::en'::σ):=by
 obtain ⟨al,ll,cl,rfl,h⟩:=hO.shape
 refine Cl.of Tryz.func115 rfl Tryz.ntmps115 (by simp) (aj (k:=0) rfl (aj (k:=1) rfl (aj (k:=2) rfl (aj (k:=3) rfl (aj (k:=4) rfl (aj (k:=5) rfl (bh))))))) ?_
 refine .region (.z zm (.z zm (.z znc (.z (zfa gv) (.y hs (zld cD) (.z zm (.z zm (.z zm (.z zm ?_)))))))))
 refine .z (zbd [_,_,_,_] ek) (.z zm (.z zm (.z zm (.z zm (.z (zbd [_,_,_,_] ek) ?_)))))
 refine .o (.buildSlice (cells:=fQ (two a b hi lo by_)) hs fk rfl (by kernel_rfl) ?_);intro b27 w hs
 refine .o (.append (ys:=fQ (two a b hi lo by_)) hs bQ rfl rfl hO (.own .here rfl rfl) (jM _) (fun l h=>by rw [dp] at h;omega) ?_);intro v28 en28 w hO2 hs
 rw [←fw] at hO2
 obtain ⟨a28,l28,c28,rfl,h28⟩:=hO2.shape
 refine .z znc (.z (zfa gv) ?_)
 refine .o (.store hs rfl rfl gR ?_);intro w hs
 refine .nil ?_
 exact Fin.xC Tryz.results115 ⟨_,_,hO2,hs.sub (by repeat (first|exact Sub.refl _|constructor|apply Sub.weaken))⟩
theorem iS{H:bn}{w:World}{σ:List Ent}{s:Spc}{vst vwa x6 x7 x8 vl:Value}{bm:Nat}{j:Int}(hs:St H w σ)(hm:Mem σ (.blk bm [I s.id,I s.src,vst,vwa,I s.al,I s.up,x6,x7,x8,vl]))(h1:RI H vst s.st)(h2:RI H vwa s.wa)(hb:s.st.length≤1000∧s.wa.length≤1000)(hj: -1≤j∧j≤1000):
  Cl Tryz.prog 116 [.pointer (some ⟨bm,0,none⟩),I j] w fun u w'=>u=I ((s.many:Int)+1+j)∧St H w' σ:=by
 have hmm:s.many≤1000000:=Nat.mul_le_mul hb.1 hb.2
 refine Cl.of Tryz.func116 rfl Tryz.ntmps116 (by simp) (aj (k:=0) rfl (aj (k:=1) rfl (bh))) ?_
 refine .ai (.z zg (.nil (.ai (.z zm (.z znc (.z (zfa dr) (.z (zfa aR) ?_)))))))
 refine .q hs (kq (vs:=[I s.id,I s.src,vst,vwa,I s.al,I s.up]) rfl aT aH hm) ?_
 refine .o (.call wF rfl (fF (s:=s) hs h1 h2 hb) ?_);rintro _ w ⟨rfl,hs⟩
 refine .z cA (.z zm (.z cA (.z zg (.nil ?_))))
 refine .ret (Fin.bI Tryz.results116 rfl ?_)
 exact ⟨rfl,hs⟩
theorem eo{s:Spc}(h:fB s):s.st.length≤1000∧s.wa.length≤1000∧0<s.wa.length∧s.many≤63:=by
 have h1:=h.st.many;have h2:=h.wa.many;have h3:=h.wa.two
 have:s.many≤9*7:=Nat.mul_le_mul h1 h2
 omega
theorem oS{H:bn}{w:World}{σ:List Ent}{s:Srv}{ts:List TD}{vst vwa vr vc vt vl:Value}{en:Ent}{bm:Nat}{ls:List Lim}(hs:St H w (.blk bm [I s.sp.id,I s.sp.src,vst,vwa,I s.sp.al,I s.sp.up,vr,vc,vt,vl]::en::σ))(hk:MkK H s ts vst vwa vr vc vt)(hO:cu 4 vl (fQ ls) en)(hl:ls.length≤10000)(hok:fB s.sp):
  Cl Tryz.prog 174 [.pointer (some ⟨bm,0,none⟩)] w fun _ w'=>∃H1 vl' en',HLe H H1∧cu 4 vl' (fQ (ls++eh (qk s.sp) s.sp.wa.length s.sp.st.length)) en'∧St H1 w' (.blk bm [I s.sp.id,I s.sp.src,vst,vwa,I s.sp.al,I s.sp.up,vr,vc,vt,vl']::en'::σ):=by
 have hsm:=eo hok
 refine Cl.of Tryz.func174 rfl Tryz.ntmps174 (by simp) (aj (k:=0) rfl (bh)) ?_
 refine .ai ?_
 refine .o (.box hs rfl rfl ?_);intro b1 w hs
 refine .nil (.ai (.y hs (zld kH) (.z znc (.z (zfa dr) (.z (zfa aR) (.y hs (zls [_,_,_,_,_,_] aT aH) ?_))))))
 refine .o (.call tX rfl (fV (s:=s.sp) hs hk.st hk.wa ⟨by omega,by omega⟩) ?_);rintro _ w ⟨H1,ba,hle1,rfl,hit,hs⟩
 refine .nil (.block ?_)
 refine .rangeFunc (gf:=190) (cap:=[.pointer (some ⟨ba,0,none⟩)]) (xs:=wA s.sp) (σb:=[.blk bm [I s.sp.id,I s.sp.src,vst,vwa,I s.sp.al,I s.sp.up,vr,vc,vt,vl],en,.blk b1 [.pointer (some ⟨bm,0,none⟩)]]) (σf:=σ) (hs.sub (by repeat (first|exact Sub.refl _|constructor|apply Sub.weaken))) trivial rfl hit tT (fun x hx=>by
   simp only [wA,List.mem_map] at hx
   obtain ⟨j,_,rfl⟩:=hx;rfl) rfl
  (I:=fun p H' σb=>∃vl en,σb=[.blk bm [I s.sp.id,I s.sp.src,vst,vwa,I s.sp.al,I s.sp.up,vr,vc,vt,vl],en,.blk b1 [.pointer (some ⟨bm,0,none⟩)]]∧cu 4 vl (fQ (ls++pN (qk s.sp) s.sp.wa.length p)) en) (Ix:=fun _ _ _=>False)
  (fun j _ _ σ g1 g2=>g2) (fun _ _ _ _ _ h=>h) ⟨vl,en,rfl,by rw [nI,List.append_nil];exact hO⟩ ?_ ?_ (fun D c H' σb w _ h _=>h.elim)
 ·rintro ly p hp H2 σb2 σf2 w hle2 ⟨vl,en,rfl,hO⟩ hs ⟨rr,hrr⟩
  have hpm:p<s.sp.many:=by rw [eH] at hp;exact hp
  have hsucc:=nJ (qk s.sp) (p:=p) hsm.2.2.1
  have hpl:=jE (nM s.sp) hsm.2.2.1 p
  have hin:p/s.sp.wa.length<s.sp.st.length:=Nat.div_lt_of_lt_mul (by rw [Nat.mul_comm];exact hpm)
  have hkm:=Nat.mod_lt p hsm.2.2.1
  have hdm:=Nat.div_add_mod p s.sp.wa.length
  rw [Nat.mul_comm] at hdm
  have hu:(s.sp.u (p/s.sp.wa.length) (p%s.sp.wa.length):Int)=(p:Int)+1:=by unfold Spc.u;omega
  rw [nN hp]
  obtain ⟨al,ll,cl,rfl,hll⟩:=hO.shape
  generalize p/s.sp.wa.length=i at*
  generalize p%s.sp.wa.length=k at*
  have hk2:=hk.mono (hle1.trans hle2)
  refine .region ?_
  refine .o (.alloc hs jh rfl ?_);intro b2 w hs
  refine .o (.aS (vs:=[_,_,_]) hs rfl rfl lV ?_);intro w hs
  refine .nil ?_
  refine nT ?_
  refine ⟨H2,[.blk b2 [I (i:Int),I (k:Int),I ((p+1:Nat):Int)],.blk bm [I s.sp.id,I s.sp.src,vst,vwa,I s.sp.al,I s.sp.up,vr,vc,vt,.slice al ll cl],en,.blk b1 [.pointer (some ⟨bm,0,none⟩)]],HLe.refl _,hs,?_⟩;rintro w σf4 - hs
  refine .block ?_
  refine .draw mix rfl hs ?_;intro w hs
  refine .y 0 rfl hs kH ?_;refine .z 1 rfl (zfa ef) ?_;refine .y 2 rfl hs af ?_;refine .y 3 rfl hs kH ?_;refine .z 4 rfl znc ?_;refine .z 5 rfl (zfa dr) ?_;refine .z 6 rfl (zfa aR) ?_;refine .z 7 rfl (zfa dm) ?_;refine .y 8 rfl hs af ?_
  refine .e1 (i:=9) (by kernel_rfl) rfl rfl .none hs ?_
  refine .call ma rfl (fp (ls:=ls++pN (qk s.sp) s.sp.wa.length p) (hs.sub (by repeat (first|exact Sub.refl _|constructor|apply Sub.weaken)):St H2 w (.blk bm _::en:: .blk b1 _::σf4)) hO (by rw [List.length_append];omega)) ?_;rintro _ w ⟨vl3,en3,hO3,hs⟩
  rw [show two 0 ((p+1:Nat):Int) 20000 0 s.sp.src=qk s.sp i k by unfold qk;rw [hu];rfl,List.append_assoc,←hsucc] at hO3
  refine .go ?_
  refine .done (by kernel_rfl) hs ?_
  refine nB ?_
  exact ⟨H2,_,HLe.refl _,hs,_,_,rfl,hO3⟩
 ·rintro D H2 σb2 w hle2 ⟨vl,en,rfl,hO⟩ hs
  rw [eH,show s.sp.many=s.sp.st.length*s.sp.wa.length from rfl,pM _ hsm.2.2.1] at hO
  refine nB ?_
  exact Fin.endD [D] [] hs fun w hs=>⟨_,results0 Tryz.results174,H2,vl,en,hle1.trans hle2,hO,(hs.sub (by repeat (first|exact Sub.refl _|constructor|apply Sub.weaken)):St H2 w (.blk bm _::en::σ))⟩
theorem rU{H:bn}{w:World}{σ:List Ent}{s:Srv}{ts:List TD}{vst vwa vr vc vt vl:Value}{en:Ent}{bm:Nat}{ls:List Lim}(hs:St H w (.blk bm [I s.sp.id,I s.sp.src,vst,vwa,I s.sp.al,I s.sp.up,vr,vc,vt,vl]::en::σ))(hk:MkK H s ts vst vwa vr vc vt)(hO:cu 4 vl (fQ ls) en)(hl:ls.length≤10000)(hok:fB s.sp):
  Cl Tryz.prog 175 [.pointer (some ⟨bm,0,none⟩)] w fun _ w'=>∃H1 vl' en',HLe H H1∧cu 4 vl' (fQ (ls++eh (alL s.sp) s.sp.wa.length s.sp.st.length)) en'∧St H1 w' (.blk bm [I s.sp.id,I s.sp.src,vst,vwa,I s.sp.al,I s.sp.up,vr,vc,vt,vl']::en'::σ):=by
 have hsm:=eo hok
 obtain ⟨ast,cst,rfl⟩:=RI.shape hk.st
 obtain ⟨awa,cwa,rfl⟩:=RI.shape hk.wa
 refine Cl.of Tryz.func175 rfl Tryz.ntmps175 (by simp) (aj (k:=0) rfl (bh)) ?_
 refine .ai ?_
 refine .o (.box hs rfl rfl ?_);intro b1 w hs
 refine .nil (.ai (.y hs (zld kH) (.z znc (.z (zfa dr) (.z (zfa aR) (.y hs (zls [_,_,_,_,_,_] aT aH) ?_))))))
 refine .o (.alloc hs fY rfl ?_);intro b2 w hs
 refine .o (.aS (vs:=[_,_,_,_,_,_]) hs rfl rfl aH ?_);intro w hs
 refine .nil (.ai (.y hs (zls [_,_,_,_,_,_] aT aH) ?_))
 refine .o (.call tX rfl (fV (s:=s.sp) hs hk.st hk.wa ⟨by omega,by omega⟩) ?_);rintro _ w ⟨H1,ba,hle1,rfl,hit,hs⟩
 refine .nil (.block ?_)
 refine .rangeFunc (gf:=190) (cap:=[.pointer (some ⟨ba,0,none⟩)]) (xs:=wA s.sp) (σb:=[.blk bm [I s.sp.id,I s.sp.src,.slice ast s.sp.st.length cst,.slice awa s.sp.wa.length cwa,I s.sp.al,I s.sp.up,vr,vc,vt,vl],en,.blk b1 [.pointer (some ⟨bm,0,none⟩)],.blk b2 [I s.sp.id,I s.sp.src,.slice ast s.sp.st.length cst,.slice awa s.sp.wa.length cwa,I s.sp.al,I s.sp.up]]) (σf:=σ) (hs.sub (by repeat (first|exact Sub.refl _|constructor|apply Sub.weaken))) trivial rfl hit tT (fun x hx=>by
   simp only [wA,List.mem_map] at hx
   obtain ⟨j,_,rfl⟩:=hx;rfl) rfl
  (I:=fun p H' σb=>∃vl en,σb=[.blk bm [I s.sp.id,I s.sp.src,.slice ast s.sp.st.length cst,.slice awa s.sp.wa.length cwa,I s.sp.al,I s.sp.up,vr,vc,vt,vl],en,.blk b1 [.pointer (some ⟨bm,0,none⟩)],.blk b2 [I s.sp.id,I s.sp.src,.slice ast s.sp.st.length cst,.slice awa s.sp.wa.length cwa,I s.sp.al,I s.sp.up]]∧cu 4 vl (fQ (ls++pN (alL s.sp) s.sp.wa.length p)) en) (Ix:=fun _ _ _=>False)
  (fun j _ _ σ g1 g2=>g2) (fun _ _ _ _ _ h=>h) ⟨vl,en,rfl,by rw [nI,List.append_nil];exact hO⟩ ?_ ?_ (fun D c H' σb w _ h _=>h.elim)
 ·rintro ly p hp H2 σb2 σf2 w hle2 ⟨vl,en,rfl,hO⟩ hs ⟨rr,hrr⟩
  have hpm:p<s.sp.many:=by rw [eH] at hp;exact hp
  have hsucc:=nJ (alL s.sp) (p:=p) hsm.2.2.1
  have hpl:=jE (qX s.sp) hsm.2.2.1 p
  have hin:p/s.sp.wa.length<s.sp.st.length:=Nat.div_lt_of_lt_mul (by rw [Nat.mul_comm];exact hpm)
  have hkm:=Nat.mod_lt p hsm.2.2.1
  have hdm:=Nat.div_add_mod p s.sp.wa.length
  rw [Nat.mul_comm] at hdm
  have hu:(s.sp.u (p/s.sp.wa.length) (p%s.sp.wa.length):Int)=(p:Int)+1:=by unfold Spc.u;omega
  rw [nN hp]
  obtain ⟨al,ll,cl,rfl,hll⟩:=hO.shape
  generalize p/s.sp.wa.length=i at*
  generalize p%s.sp.wa.length=k at*
  have hk2:=hk.mono (hle1.trans hle2)
  refine .region ?_
  refine .o (.alloc hs jh rfl ?_);intro b3 w hs
  refine .o (.aS (vs:=[_,_,_]) hs rfl rfl lV ?_);intro w hs
  refine .nil ?_
  refine nT ?_
  refine ⟨H2,[.blk b3 [I (i:Int),I (k:Int),I ((p+1:Nat):Int)],.blk bm [I s.sp.id,I s.sp.src,.slice ast s.sp.st.length cst,.slice awa s.sp.wa.length cwa,I s.sp.al,I s.sp.up,vr,vc,vt,.slice al ll cl],en,.blk b1 [.pointer (some ⟨bm,0,none⟩)],.blk b2 [I s.sp.id,I s.sp.src,.slice ast s.sp.st.length cst,.slice awa s.sp.wa.length cwa,I s.sp.al,I s.sp.up]],HLe.refl _,hs,?_⟩;rintro w σf4 - hs
  refine .block (.ai (.z (zfa dx) (.y hs (zld af) (.z cA (.z (zfa bA) (.y hs (zld ak) (.z (cM aa) (.z fN (.nil ?_)))))))))
  refine (.bJ rfl (fun hc19=>?_) (fun hc19=>?_))
  ·refine .seq (.draw mix rfl hs ?_);intro w hs
   refine .z 0 rfl (zfa dO) ?_;refine .z 1 rfl (zfa iV) ?_;refine .y 2 rfl hs af ?_;refine .z 3 rfl (zfa bA) ?_;refine .y 4 rfl hs ak ?_;refine .z 5 rfl (zfa dx) ?_;refine .y 6 rfl hs af ?_;refine .z 7 rfl cA ?_
   have hris:=hok.st.rise i (by omega)
   have hq0:=hok.st.bd (i:=i) (by omega)
   have hq1:=hok.st.bd (i:=i+1) (by omega)
   have hal:=hok.al
   refine .ixX (enc:=fun x=>[I x]) (i:=8) hs rfl (by kernel_rfl) .none hk2.st rfl rfl aa ae (br (l:=s.sp.st) (i:=(i+1)) (by omega)) (by first|rfl|assumption|omega) ?_;intro b28 o28 hc28;replace hc28:=bG.one hc28
   refine .r (i:=9) hs rfl (by kernel_rfl) .none (aM rfl af hc28) ?_
   refine .z 10 rfl (zfa bA) ?_;refine .y 11 rfl hs ak ?_;refine .z 12 rfl (zfa dx) ?_;refine .y 13 rfl hs af ?_
   refine .ixX (enc:=fun x=>[I x]) (i:=14) hs rfl (by kernel_rfl) .none hk2.st rfl rfl aa ae (br (l:=s.sp.st) (i:=i) (by omega)) (by first|rfl|assumption|omega) ?_;intro b34 o34 hc34;replace hc34:=bG.one hc34
   refine .r (i:=15) hs rfl (by kernel_rfl) .none (aM rfl af hc34) ?_
   refine .z 16 rfl gM ?_
   refine .e1 (i:=17) (by kernel_rfl) rfl rfl .none hs ?_
   refine .call Tryz.call230 rfl (lK hs (by omega) (by omega)) ?_;rintro _ w ⟨rfl,hs⟩
   refine .go ?_
   refine .z 18 rfl zg ?_;refine .done (by kernel_rfl) hs ?_
   refine .region (.y hs (zld kH) (.z (zfa ef) (.y hs (zld af) (.z (zfa ef) (.y hs (zld af) (.z (zfa bg) (.y hs (zld ak) (.z (cM aa) (.z cA ?_)))))))))
   refine .z zm (.z zm (.z (zfa dm) (.y hs (zld af) ?_)))
   refine .o (.call ma rfl (fp (ls:=ls++pN (alL s.sp) s.sp.wa.length p) (hs.sub (by repeat (first|exact Sub.refl _|constructor|apply Sub.weaken)):St H2 w (.blk bm _::en:: .blk b1 _:: .blk b2 _::σf4)) hO (by rw [List.length_append];omega)) ?_);rintro _ w ⟨vl3,en3,hO3,hs⟩
   have hu2:(s.sp.u (i+1) k:Int)=((p+1:Nat):Int)+(s.sp.wa.length:Int):=by unfold Spc.u at hu ⊢;rw [Nat.add_mul];omega
   rw [show two ((p+1:Nat):Int) (((p+1:Nat):Int)+(s.sp.wa.length:Int)) (jS s.sp.al (gi s.sp.st (i+1) - gi s.sp.st i)) (jS s.sp.al (gi s.sp.st (i+1) - gi s.sp.st i)) s.sp.src=alL s.sp i k by unfold alL;rw [if_pos (by omega),hu,hu2];rfl,List.append_assoc,←hsucc] at hO3
   refine .nil ?_
   refine nB ?_
   exact ⟨H2,_,HLe.refl _,hs,_,_,rfl,hO3⟩
  ·refine .skip ?_
   refine nB ?_
   rw [show alL s.sp i k=[] by unfold alL;rw [if_neg (by omega)],List.append_nil] at hsucc
   exact ⟨H2,_,HLe.refl _,(hs.sub (by repeat (first|exact Sub.refl _|constructor|apply Sub.weaken)):St H2 w (.blk bm _::en:: .blk b1 _:: .blk b2 _::σf4)),_,_,rfl,by rw [hsucc];exact hO⟩
 ·rintro D H2 σb2 w hle2 ⟨vl,en,rfl,hO⟩ hs
  rw [eH,show s.sp.many=s.sp.st.length*s.sp.wa.length from rfl,pM _ hsm.2.2.1] at hO
  refine nB ?_
  exact Fin.endD [D] [] hs fun w hs=>⟨_,results0 Tryz.results175,H2,vl,en,hle1.trans hle2,hO,(hs.sub (by repeat (first|exact Sub.refl _|constructor|apply Sub.weaken)):St H2 w (.blk bm _::en::σ))⟩
theorem vD{H:bn}{w:World}{σ:List Ent}{s:Srv}{ts:List TD}{vst vwa vr vc vt vl:Value}{en:Ent}{bm:Nat}{ls:List Lim}(hs:St H w (.blk bm [I s.sp.id,I s.sp.src,vst,vwa,I s.sp.al,I s.sp.up,vr,vc,vt,vl]::en::σ))(hk:MkK H s ts vst vwa vr vc vt)(hO:cu 4 vl (fQ ls) en)(hl:ls.length≤10000)(hok:fB s.sp):
  Cl Tryz.prog 176 [.pointer (some ⟨bm,0,none⟩)] w fun _ w'=>∃H1 vl' en',HLe H H1∧cu 4 vl' (fQ (ls++eh (upL s.sp) s.sp.wa.length s.sp.st.length)) en'∧St H1 w' (.blk bm [I s.sp.id,I s.sp.src,vst,vwa,I s.sp.al,I s.sp.up,vr,vc,vt,vl']::en'::σ):=by
 have hsm:=eo hok
 obtain ⟨ast,cst,rfl⟩:=RI.shape hk.st
 obtain ⟨awa,cwa,rfl⟩:=RI.shape hk.wa
 refine Cl.of Tryz.func176 rfl Tryz.ntmps176 (by simp) (aj (k:=0) rfl (bh)) ?_
 refine .ai ?_
 refine .o (.box hs rfl rfl ?_);intro b1 w hs
 refine .nil (.ai (.y hs (zld kH) (.z znc (.z (zfa dr) (.z (zfa aR) (.y hs (zls [_,_,_,_,_,_] aT aH) ?_))))))
 refine .o (.alloc hs fY rfl ?_);intro b2 w hs
 refine .o (.aS (vs:=[_,_,_,_,_,_]) hs rfl rfl aH ?_);intro w hs
 refine .nil (.ai (.y hs (zls [_,_,_,_,_,_] aT aH) ?_))
 refine .o (.call tX rfl (fV (s:=s.sp) hs hk.st hk.wa ⟨by omega,by omega⟩) ?_);rintro _ w ⟨H1,ba,hle1,rfl,hit,hs⟩
 refine .nil (.block ?_)
 refine .rangeFunc (gf:=190) (cap:=[.pointer (some ⟨ba,0,none⟩)]) (xs:=wA s.sp) (σb:=[.blk bm [I s.sp.id,I s.sp.src,.slice ast s.sp.st.length cst,.slice awa s.sp.wa.length cwa,I s.sp.al,I s.sp.up,vr,vc,vt,vl],en,.blk b1 [.pointer (some ⟨bm,0,none⟩)],.blk b2 [I s.sp.id,I s.sp.src,.slice ast s.sp.st.length cst,.slice awa s.sp.wa.length cwa,I s.sp.al,I s.sp.up]]) (σf:=σ) (hs.sub (by repeat (first|exact Sub.refl _|constructor|apply Sub.weaken))) trivial rfl hit tT (fun x hx=>by
   simp only [wA,List.mem_map] at hx
   obtain ⟨j,_,rfl⟩:=hx;rfl) rfl
  (I:=fun p H' σb=>∃vl en,σb=[.blk bm [I s.sp.id,I s.sp.src,.slice ast s.sp.st.length cst,.slice awa s.sp.wa.length cwa,I s.sp.al,I s.sp.up,vr,vc,vt,vl],en,.blk b1 [.pointer (some ⟨bm,0,none⟩)],.blk b2 [I s.sp.id,I s.sp.src,.slice ast s.sp.st.length cst,.slice awa s.sp.wa.length cwa,I s.sp.al,I s.sp.up]]∧cu 4 vl (fQ (ls++pN (upL s.sp) s.sp.wa.length p)) en) (Ix:=fun _ _ _=>False)
  (fun j _ _ σ g1 g2=>g2) (fun _ _ _ _ _ h=>h) ⟨vl,en,rfl,by rw [nI,List.append_nil];exact hO⟩ ?_ ?_ (fun D c H' σb w _ h _=>h.elim)
 ·rintro ly p hp H2 σb2 σf2 w hle2 ⟨vl,en,rfl,hO⟩ hs ⟨rr,hrr⟩
  have hpm:p<s.sp.many:=by rw [eH] at hp;exact hp
  have hsucc:=nJ (upL s.sp) (p:=p) hsm.2.2.1
  have hpl:=jE (qs s.sp) hsm.2.2.1 p
  have hin:p/s.sp.wa.length<s.sp.st.length:=Nat.div_lt_of_lt_mul (by rw [Nat.mul_comm];exact hpm)
  have hkm:=Nat.mod_lt p hsm.2.2.1
  have hdm:=Nat.div_add_mod p s.sp.wa.length
  rw [Nat.mul_comm] at hdm
  have hu:(s.sp.u (p/s.sp.wa.length) (p%s.sp.wa.length):Int)=(p:Int)+1:=by unfold Spc.u;omega
  rw [nN hp]
  obtain ⟨al,ll,cl,rfl,hll⟩:=hO.shape
  generalize p/s.sp.wa.length=i at*
  generalize p%s.sp.wa.length=k at*
  have hk2:=hk.mono (hle1.trans hle2)
  refine .region ?_
  refine .o (.alloc hs jh rfl ?_);intro b3 w hs
  refine .o (.aS (vs:=[_,_,_]) hs rfl rfl lV ?_);intro w hs
  refine .nil ?_
  refine nT ?_
  refine ⟨H2,[.blk b3 [I (i:Int),I (k:Int),I ((p+1:Nat):Int)],.blk bm [I s.sp.id,I s.sp.src,.slice ast s.sp.st.length cst,.slice awa s.sp.wa.length cwa,I s.sp.al,I s.sp.up,vr,vc,vt,.slice al ll cl],en,.blk b1 [.pointer (some ⟨bm,0,none⟩)],.blk b2 [I s.sp.id,I s.sp.src,.slice ast s.sp.st.length cst,.slice awa s.sp.wa.length cwa,I s.sp.al,I s.sp.up]],HLe.refl _,hs,?_⟩;rintro w σf4 - hs
  refine .block (.ai (.z (zfa dh) (.y hs (zld af) (.z cA (.z (zfa bg) (.y hs (zld ak) (.z (cM aa) (.z fN (.nil ?_)))))))))
  refine (.bJ rfl (fun hc19=>?_) (fun hc19=>?_))
  ·refine .seq (.draw mix rfl hs ?_);intro w hs
   refine .z 0 rfl (zfa dO) ?_;refine .z 1 rfl (zfa iU) ?_;refine .y 2 rfl hs af ?_;refine .z 3 rfl (zfa bg) ?_;refine .y 4 rfl hs ak ?_;refine .z 5 rfl (zfa dh) ?_;refine .y 6 rfl hs af ?_;refine .z 7 rfl cA ?_
   have hris:=hok.wa.rise k (by omega)
   have hq0:=hok.wa.bd (i:=k) (by omega)
   have hq1:=hok.wa.bd (i:=k+1) (by omega)
   have hal:=hok.up
   refine .ixX (enc:=fun x=>[I x]) (i:=8) hs rfl (by kernel_rfl) .none hk2.wa rfl rfl aa ae (br (l:=s.sp.wa) (i:=(k+1)) (by omega)) (by first|rfl|assumption|omega) ?_;intro b28 o28 hc28;replace hc28:=bG.one hc28
   refine .r (i:=9) hs rfl (by kernel_rfl) .none (aM rfl af hc28) ?_
   refine .z 10 rfl (zfa bg) ?_;refine .y 11 rfl hs ak ?_;refine .z 12 rfl (zfa dh) ?_;refine .y 13 rfl hs af ?_
   refine .ixX (enc:=fun x=>[I x]) (i:=14) hs rfl (by kernel_rfl) .none hk2.wa rfl rfl aa ae (br (l:=s.sp.wa) (i:=k) (by omega)) (by first|rfl|assumption|omega) ?_;intro b34 o34 hc34;replace hc34:=bG.one hc34
   refine .r (i:=15) hs rfl (by kernel_rfl) .none (aM rfl af hc34) ?_
   refine .z 16 rfl gM ?_
   refine .e1 (i:=17) (by kernel_rfl) rfl rfl .none hs ?_
   refine .call Tryz.call230 rfl (lK hs (by omega) (by omega)) ?_;rintro _ w ⟨rfl,hs⟩
   refine .go ?_
   refine .z 18 rfl zg ?_;refine .done (by kernel_rfl) hs ?_
   refine .region (.y hs (zld kH) (.z (zfa ef) (.y hs (zld af) (.z (zfa ef) (.y hs (zld af) (.z cA (.z zm (.z zm (.z (zfa dm) ?_)))))))))
   refine .y hs (zld af) ?_
   refine .o (.call ma rfl (fp (ls:=ls++pN (upL s.sp) s.sp.wa.length p) (hs.sub (by repeat (first|exact Sub.refl _|constructor|apply Sub.weaken)):St H2 w (.blk bm _::en:: .blk b1 _:: .blk b2 _::σf4)) hO (by rw [List.length_append];omega)) ?_);rintro _ w ⟨vl3,en3,hO3,hs⟩
   have hu2:(s.sp.u i (k+1):Int)=((p+1:Nat):Int)+1:=by unfold Spc.u at hu ⊢;omega
   rw [show two ((p+1:Nat):Int) (((p+1:Nat):Int)+1) (jS s.sp.up (gi s.sp.wa (k+1) - gi s.sp.wa k)) (jS s.sp.up (gi s.sp.wa (k+1) - gi s.sp.wa k)) s.sp.src=upL s.sp i k by unfold upL;rw [if_pos (by omega),hu,hu2];rfl,List.append_assoc,←hsucc] at hO3
   refine .nil ?_
   refine nB ?_
   exact ⟨H2,_,HLe.refl _,hs,_,_,rfl,hO3⟩
  ·refine .skip ?_
   refine nB ?_
   rw [show upL s.sp i k=[] by unfold upL;rw [if_neg (by omega)],List.append_nil] at hsucc
   exact ⟨H2,_,HLe.refl _,(hs.sub (by repeat (first|exact Sub.refl _|constructor|apply Sub.weaken)):St H2 w (.blk bm _::en:: .blk b1 _:: .blk b2 _::σf4)),_,_,rfl,by rw [hsucc];exact hO⟩
 ·rintro D H2 σb2 w hle2 ⟨vl,en,rfl,hO⟩ hs
  rw [eH,show s.sp.many=s.sp.st.length*s.sp.wa.length from rfl,pM _ hsm.2.2.1] at hO
  refine nB ?_
  exact Fin.endD [D] [] hs fun w hs=>⟨_,results0 Tryz.results176,H2,vl,en,hle1.trans hle2,hO,(hs.sub (by repeat (first|exact Sub.refl _|constructor|apply Sub.weaken)):St H2 w (.blk bm _::en::σ))⟩
theorem qI{H:bn}{w:World}{σ:List Ent}{s:Srv}{ts:List TD}{vst vwa vr vc vt vl:Value}{en:Ent}{bm:Nat}{ls:List Lim}(hs:St H w (.blk bm [I s.sp.id,I s.sp.src,vst,vwa,I s.sp.al,I s.sp.up,vr,vc,vt,vl]::en::σ))(hk:MkK H s ts vst vwa vr vc vt)(hO:cu 4 vl (fQ ls) en)(hl:ls.length≤10000)(hok:fB s.sp)(htl:ts.length≤100):
  Cl Tryz.prog 177 [.pointer (some ⟨bm,0,none⟩)] w fun _ w'=>∃H1 vl' en',HLe H H1∧cu 4 vl' (fQ (ls++vP s.sp ts.length)) en'∧St H1 w' (.blk bm [I s.sp.id,I s.sp.src,vst,vwa,I s.sp.al,I s.sp.up,vr,vc,vt,vl']::en'::σ):=by
 have hsm:=eo hok
 obtain ⟨at_,ct,rfl⟩:=RTd.shape hk.ts
 refine Cl.of Tryz.func177 rfl Tryz.ntmps177 (by simp) (aj (k:=0) rfl (bh)) ?_
 refine .ai (.z zm (.z znc (.z (zfa fi) (.y hs (zld tS) (.z (cM aF) (.z zm (.nil ?_)))))))
 refine .for (N:=ts.length) (J:=fun j fr w=>fr=[(0,.pointer (some ⟨bm,0,none⟩))]∧∃vl en,cu 4 vl (fQ (ls++vP s.sp j)) en∧St H w (.blk bm [I s.sp.id,I s.sp.src,vst,vwa,I s.sp.al,I s.sp.up,vr,vc,.slice at_ ts.length ct,vl]::en::σ)) (by omega) ?_ ?_ ?_
 ·exact .mk ⟨rfl,vl,en,by show cu 4 vl (fQ (ls++[])) en;rw [List.append_nil];exact hO,hs⟩
 ·rintro j fr w hj ⟨rfl,vl,en,hO,hs⟩
  have hel:=js s.sp j
  obtain ⟨al,ll,cl,rfl,hll⟩:=hO.shape
  refine .block (.ai (.z zm (.z zg (.nil ?_))))
  refine .draw mix rfl hs ?_;intro w hs
  refine .z 0 rfl zm ?_;refine .z 1 rfl zm ?_;refine .z 2 rfl zm ?_;refine .z 4 rfl zm ?_;refine .z 5 rfl znc ?_;refine .z 6 rfl (zfa dr) ?_;refine .z 7 rfl (zfa aR) ?_;refine .z 8 rfl (zfa dm) ?_;refine .y 9 rfl hs af ?_
  refine .e1 (i:=3) (by kernel_rfl) rfl rfl .none hs ?_
  refine .call Ac rfl (iS (s:=s.sp) hs .here hk.st hk.wa ⟨by omega,by omega⟩ ⟨by omega,by omega⟩) ?_;rintro _ w ⟨rfl,hs⟩
  refine .go ?_
  refine .e1 (i:=10) (by kernel_rfl) rfl rfl .none hs ?_
  refine .call ma rfl (fp (ls:=ls++vP s.sp j) hs hO (by rw [List.length_append];omega)) ?_;rintro _ w ⟨vl3,en3,hO3,hs⟩
  rw [show (s.sp.many:Int)+1+(j:Int)=((s.sp.many+1+j:Nat):Int) by omega,List.append_assoc] at hO3
  refine .go ?_
  refine .done (by kernel_rfl) hs ?_
  refine nB (nT ?_)
  exact .mk ⟨rfl,vl3,en3,hO3,hs⟩
 ·rintro fr w ⟨rfl,vl,en,hO,hs⟩
  exact Fin.xC Tryz.results177 ⟨H,vl,en,HLe.refl _,hO,hs⟩
set_option maxHeartbeats 1000000 in
theorem ku{H:bn}{w:World}{σ:List Ent}{s:Srv}{ts:List TD}{vst vwa vr vc vt vl:Value}{en:Ent}{bm:Nat}{ls:List Lim}(hs:St H w (.blk bm [I s.sp.id,I s.sp.src,vst,vwa,I s.sp.al,I s.sp.up,vr,vc,vt,vl]::en::σ))(hk:MkK H s ts vst vwa vr vc vt)(hO:cu 4 vl (fQ ls) en)(hl:ls.length≤10000)(hok:fB s.sp)(htl:ts.length≤100)(hcl:s.cs.length≤20)(hc:∀c∈s.cs,pa c){j0:Nat}(hj0:j0≤ts.length):
  Cl Tryz.prog 117 [.pointer (some ⟨bm,0,none⟩),I (j0:Int)] w fun _ w'=>∃H1 vl' en',HLe H H1∧cu 4 vl' (fQ (ls++qP s.sp ts s.cs j0 s.cs.length)) en'∧St H1 w' (.blk bm [I s.sp.id,I s.sp.src,vst,vwa,I s.sp.al,I s.sp.up,vr,vc,vt,vl']::en'::σ):=by
 have hsm:=eo hok
 obtain ⟨at_,ct,rfl⟩:=RTd.shape hk.ts
 obtain ⟨ac,cc,rfl⟩:=RCm.shape hk.cs
 refine Cl.of Tryz.func117 rfl Tryz.ntmps117 (by simp) (aj (k:=0) rfl (aj (k:=1) rfl (bh))) ?_
 refine .ai (.z zm (.z znc (.z (zfa dr) (.z (zfa bT) (.y hs (zld dD) (.z (cM aV) (.z zm (.nil ?_))))))))
 refine .for (N:=s.cs.length) (J:=fun i fr w=>fr=[(12,.slice ac s.cs.length cc),(0,.pointer (some ⟨bm,0,none⟩)),(1,I (j0:Int))]∧∃vl en,cu 4 vl (fQ (ls++qP s.sp ts s.cs j0 i)) en∧St H w (.blk bm [I s.sp.id,I s.sp.src,vst,vwa,I s.sp.al,I s.sp.up,vr,.slice ac s.cs.length cc,.slice at_ ts.length ct,vl]::en::σ)) (by omega) ?_ ?_ ?_
 ·exact .mk ⟨rfl,vl,en,by show cu 4 vl (fQ (ls++[])) en;rw [List.append_nil];exact hO,hs⟩
 ·rintro i fr w hi ⟨rfl,vl,en,hO,hs⟩
  obtain ⟨c,hx⟩:=nth hi
  obtain ⟨g1,g2,g3,g4,g5,g6⟩:=hc c (List.mem_of_getElem? hx)
  have hcl1:=iq s.sp ts s.cs j0 i
  have hcl2:i*(2*(ts.length - j0))≤20*(2*100):=Nat.mul_le_mul (by omega) (by omega)
  refine .block (.ai ?_)
  refine .ixX (enc:=Cmp.c) hs hk.cs rfl rfl aV bX hx (by first|rfl|assumption|omega) ?_;intro b16 o16 hc16
  refine .q hs (cj (vs:=(Cmp.c c)) rfl rn bX hc16) ?_
  refine .o (.alloc hs lr rfl ?_);intro b5 w hs
  refine .o (.aS (vs:=c.c) hs rfl rfl bX ?_);intro w hs
  replace hs:St H w (.blk bm [I s.sp.id,I s.sp.src,vst,vwa,I s.sp.al,I s.sp.up,vr,.slice ac s.cs.length cc,.slice at_ ts.length ct,vl]::en:: .blk b5 [I c.src,I c.tape,I c.fr,I c.to,I c.lo,I c.hi]::σ):=hs.sub (by repeat (first|exact Sub.refl _|constructor|apply Sub.weaken))
  refine .nil (.ai (.z zm (.z zg (.nil (.block ?_)))))
  refine .loop (fun j:Nat=>⟨62,[],[(6,I ((j0+j:Nat):Int)),(5,.pointer (some ⟨b5,0,none⟩)),(14,I (i:Int)),(13,I (s.cs.length:Int)),(12,.slice ac s.cs.length cc),(0,.pointer (some ⟨bm,0,none⟩)),(1,I (j0:Int))]⟩)
   (fun j w=>j0+j≤ts.length∧∃vl en,cu 4 vl (fQ (ls++qP s.sp ts s.cs j0 i++ky s.sp ts c j0 j)) en∧St H w (.blk bm [I s.sp.id,I s.sp.src,vst,vwa,I s.sp.al,I s.sp.up,vr,.slice ac s.cs.length cc,.slice at_ ts.length ct,vl]::en:: .blk b5 [I c.src,I c.tape,I c.fr,I c.to,I c.lo,I c.hi]::σ)) (fun j=>ts.length - (j0+j)) 0 (by repeat (first|exact .nil rfl rfl|refine .cons rfl ?_))
   ⟨by omega,vl,en,by show cu 4 vl (fQ (_++[])) en;rw [List.append_nil];exact hO,hs⟩ ?_
  clear hO hs
  rintro j w ⟨hj,vl,en,hO,hs⟩
  have hl1:=kU s.sp ts c j0 j
  obtain ⟨al,ll,cl,rfl,hll⟩:=hO.shape
  refine .seq (.ai (.z zm (.z zm (.z znc (.z (zfa fi) (.y hs (zld tS) (.z (cM aF) (.z fN (.nil ?_)))))))))
  refine (.bJ rfl (fun hc25=>?_) (fun hc25=>?_))
  ·refine .skip ?_
   refine nT ?_
   refine .seq (.block (.ai (.z zm (.z znc (.z (zfa fi) (.y hs (zld tS) (.z zm ?_)))))))
   obtain ⟨t,ht⟩:=nth (l:=ts) (k:=j0+j) (by omega)
   have ht0:=Da ht
   refine .ixX (enc:=TD.c) hs hk.ts rfl rfl aF aP ht (by first|rfl|assumption|omega) ?_;intro b33 o33 hc33
   refine .q hs (cj (vs:=(TD.c t)) rfl bV aP hc33) ?_
   refine .o (.alloc hs ig rfl ?_);intro b7 w hs
   refine .o (.aS (vs:=t.c) hs rfl rfl aP ?_);intro w hs
   change St _ _ (.blk b7 [I t.tape,I t.day]::_) at hs
   refine .nil (.ai (.z (zfa mA) (.y hs (zld af) (.z (zfa ic) (.y hs (zld af) (.z fA (.z zm ?_)))))))
   refine .iE (t':=40) rfl (fun hb40=>?_) (fun hb40=>?_)
   ·refine .gT rfl rfl ?_
    refine .z (zfa jT) ?_
    refine .gT rfl rfl ?_
    refine .y hs (zld af) ?_
    refine .gT rfl rfl ?_
    refine .z (zfa fc) ?_
    refine .gT rfl rfl ?_
    refine .y hs (zld af) ?_
    refine .gT rfl rfl ?_
    refine .z (zfa eG) ?_
    refine .gT rfl rfl ?_
    refine .y hs (zld af) ?_
    refine .gT rfl rfl ?_
    refine .o (.call dv rfl (bw hs) ?_);rintro _ w ⟨rfl,hs⟩
    refine .z zpT (.nil ?_)
    refine (.cond rfl (fun hc48=>?_) (fun hc48=>?_))
    ·refine .draw mix rfl hs ?_;intro w hs
     refine .z 0 rfl zm ?_;refine .z 1 rfl zm ?_;refine .z 2 rfl zm ?_;refine .z 4 rfl (zfa eF) ?_;refine .y 5 rfl hs af ?_;refine .z 6 rfl xI ?_;refine .z 7 rfl (zfa eE) ?_;refine .y 8 rfl hs af ?_;refine .z 9 rfl (zfa fW) ?_;refine .y 10 rfl hs af ?_
     refine .e1 (i:=3) (by kernel_rfl) rfl rfl .none hs ?_
     refine .call Ac rfl (iS (s:=s.sp) hs (.there .here) hk.st hk.wa ⟨by omega,by omega⟩ ⟨by omega,by omega⟩) ?_;rintro _ w ⟨rfl,hs⟩
     refine .go ?_
     refine .e1 (i:=11) (by kernel_rfl) rfl rfl .none hs ?_
     refine .call ma rfl (fp (ls:=ls++qP s.sp ts s.cs j0 i++ky s.sp ts c j0 j) (hs.tail:St H w (.blk bm _::en:: .blk b5 _::σ)) hO (by rw [List.length_append,List.length_append];omega)) ?_;rintro _ w ⟨vl3,en3,hO3,hs⟩
     refine .go ?_
     refine .done (by kernel_rfl) hs ?_
     refine nB (nT ?_)
     refine .region (.z zm (.z cA (.z zg (.nil ?_))))
     refine nT ?_
     have e:ky s.sp ts c j0 (j+1)=ky s.sp ts c j0 j++two 0 ((s.sp.many:Int)+1+((j0+j:Nat):Int)) (-c.lo) c.hi c.src:=by
      show _++k8 c (td0 ts (j0+j)) _=_
      rw [ht0];unfold k8;rw [if_pos (by simp at hc48;omega)]
      rw [show ((s.sp.many+1+(j0+j):Nat):Int)=(s.sp.many:Int)+1+((j0+j:Nat):Int) by omega]
     rw [List.append_assoc _ (ky _ _ _ _ _),←e] at hO3
     exact ⟨j+1,.cq rfl (by simp;omega) (by repeat (first|exact .nil rfl rfl|refine .cons rfl ?_)),⟨by omega,vl3,en3,hO3,hs⟩,by omega⟩
    ·refine .skip ?_
     refine nB (nT ?_)
     refine .region (.z zm (.z cA (.z zg (.nil ?_))))
     refine nT ?_
     have e:ky s.sp ts c j0 (j+1)=ky s.sp ts c j0 j:=by
      show _++k8 c (td0 ts (j0+j)) _=_
      rw [ht0];unfold k8;rw [if_neg (by simp at hc48;omega),List.append_nil]
     exact ⟨j+1,.cq rfl (by simp;omega) (by repeat (first|exact .nil rfl rfl|refine .cons rfl ?_)),⟨by omega,_,en,by rw [e];exact hO,hs.tail⟩,by omega⟩
   ·refine .gFs 7 5 true rfl rfl rfl ?_
    refine .z zpF (.nil ?_)
    refine (.mj rfl (by first|rfl|exact decide_eq_false (by assumption)) ?_)
    refine .skip ?_
    refine nB (nT ?_)
    refine .region (.z zm (.z cA (.z zg (.nil ?_))))
    refine nT ?_
    have e:ky s.sp ts c j0 (j+1)=ky s.sp ts c j0 j:=by
     show _++k8 c (td0 ts (j0+j)) _=_
     rw [ht0];unfold k8;rw [if_neg (by omega),List.append_nil]
    exact ⟨j+1,.cq rfl (by simp;omega) (by repeat (first|exact .nil rfl rfl|refine .cons rfl ?_)),⟨by omega,_,en,by rw [e];exact hO,hs.tail⟩,by omega⟩
  ·refine .exit ?_
   refine xT (xT (xB (nB (nT ?_))))
   obtain rfl:j=ts.length - j0:=by omega
   rw [List.append_assoc,show qP s.sp ts s.cs j0 i++ky s.sp ts c j0 (ts.length - j0)=qP s.sp ts s.cs j0 (i+1) by rw [←Br hx];rfl] at hO
   exact .mk ⟨rfl,_,en,hO,hs.sub (by repeat (first|exact Sub.refl _|constructor|apply Sub.weaken))⟩
 ·rintro fr w ⟨rfl,vl,en,hO,hs⟩
  exact Fin.xC Tryz.results117 ⟨H,vl,en,HLe.refl _,hO,hs⟩
theorem mM{H:bn}{w:World}{σ:List Ent}{s:Srv}{ts:List TD}{vst vwa vr vc vt vl:Value}{en:Ent}{bm:Nat}{ls:List Lim}(hs:St H w (.blk bm [I s.sp.id,I s.sp.src,vst,vwa,I s.sp.al,I s.sp.up,vr,vc,vt,vl]::en::σ))(hk:MkK H s ts vst vwa vr vc vt)(hO:cu 4 vl (fQ ls) en)(hl:ls.length≤10000)(hok:fB s.sp)(htl:ts.length≤100)(hcl:s.cs.length≤20)(hc:∀c∈s.cs,pa c):
  Cl Tryz.prog 178 [.pointer (some ⟨bm,0,none⟩)] w fun _ w'=>∃H1 vl' en',HLe H H1∧cu 4 vl' (fQ (ls++qP s.sp ts s.cs 0 s.cs.length)) en'∧St H1 w' (.blk bm [I s.sp.id,I s.sp.src,vst,vwa,I s.sp.al,I s.sp.up,vr,vc,vt,vl']::en'::σ):=by
 refine Cl.of Tryz.func178 rfl Tryz.ntmps178 (by simp) (aj (k:=0) rfl (bh)) ?_
 refine .region (.z zm ?_)
 refine .o (.call Tryz.call117 rfl (ku (s:=s) (ts:=ts) (j0:=0) hs hk hO hl hok htl hcl hc (by omega)) ?_);rintro _ w hs
 refine .nil ?_
 exact Fin.xC Tryz.results178 hs
set_option maxHeartbeats 1000000 in
theorem oR{H:bn}{w:World}{σ:List Ent}{s:Srv}{ts:List TD}{vst vwa vr vc vt vl:Value}{en:Ent}{bm:Nat}{ls:List Lim}(hs:St H w (.blk bm [I s.sp.id,I s.sp.src,vst,vwa,I s.sp.al,I s.sp.up,vr,vc,vt,vl]::en::σ))(hk:MkK H s ts vst vwa vr vc vt)(hO:cu 4 vl (fQ ls) en)(hl:ls.length≤10000)(hok:fB s.sp)(htl:ts.length≤100)(hrl:s.rs.length≤60)(hr:∀r∈s.rs,jt s.sp r)(hmem:∀r∈s.rs,r.td∈ts):
  Cl Tryz.prog 179 [.pointer (some ⟨bm,0,none⟩)] w fun _ w'=>∃H1 vl' en',HLe H H1∧cu 4 vl' (fQ (ls++tz s.sp ts s.rs s.rs.length)) en'∧St H1 w' (.blk bm [I s.sp.id,I s.sp.src,vst,vwa,I s.sp.al,I s.sp.up,vr,vc,vt,vl']::en'::σ):=by
 have hsm:=eo hok
 obtain ⟨at_,ct,rfl⟩:=RTd.shape hk.ts
 obtain ⟨ar,cr,rfl⟩:=RRd.shape hk.rs
 refine Cl.of Tryz.func179 rfl Tryz.ntmps179 (by simp) (aj (k:=0) rfl (bh)) ?_
 refine .ai (.z zm (.z znc (.z (zfa dr) (.z (zfa aJ) (.y hs (zld bp) (.z (cM au) (.z zm (.nil ?_))))))))
 refine .for (N:=s.rs.length) (J:=fun i fr w=>fr=[(9,.slice ar s.rs.length cr),(0,.pointer (some ⟨bm,0,none⟩))]∧∃vl en,cu 4 vl (fQ (ls++tz s.sp ts s.rs i)) en∧St H w (.blk bm [I s.sp.id,I s.sp.src,vst,vwa,I s.sp.al,I s.sp.up,.slice ar s.rs.length cr,vc,.slice at_ ts.length ct,vl]::en::σ)) (by omega) ?_ ?_ ?_
 ·exact .mk ⟨rfl,vl,en,by show cu 4 vl (fQ (ls++[])) en;rw [List.append_nil];exact hO,hs⟩
 ·rintro i fr w hi ⟨rfl,vl,en,hO,hs⟩
  obtain ⟨r,hx⟩:=nth hi
  obtain ⟨g1,g2,g3,g4,g5,g6,g7⟩:=hr r (List.mem_of_getElem? hx)
  obtain ⟨k,k1,k2,k3⟩:=fg (hmem r (List.mem_of_getElem? hx))
  have hrl1:=jq s.sp ts s.rs i
  obtain ⟨al,ll,cl,rfl,hll⟩:=hO.shape
  refine .block (.ai ?_)
  refine .ixX (enc:=Rdg.c) hs hk.rs rfl rfl au aE hx (by first|rfl|assumption|omega) ?_;intro b13 o13 hc13
  refine .q hs (cj (vs:=(Rdg.c r)) rfl du aE hc13) ?_
  refine .o (.alloc hs dS rfl ?_);intro b3 w hs
  refine .o (.aS (vs:=r.c) hs rfl rfl aE ?_);intro w hs
  change St _ _ (.blk b3 [I r.src,I r.st,I r.wa,I r.val,I r.tol,I r.tape,I r.day]::_) at hs
  refine .nil ?_
  refine .seq (.draw mix rfl hs ?_);intro w hs
  refine .z 0 rfl zm ?_;refine .z 1 rfl znc ?_;refine .z 2 rfl (zfa fi) ?_;refine .y 3 rfl hs tS ?_;refine .ys 4 rfl hs [_,_,_,_,_,_,_] du aE ?_
  refine .e1 (i:=5) (by kernel_rfl) rfl rfl .none hs ?_
  refine .call tV rfl (eU hs) ?_;rintro _ w ⟨rfl,hs⟩
  refine .go ?_
  refine .e1 (i:=6) (by kernel_rfl) rfl rfl .none hs ?_
  refine .call Tryz.call89 rfl (m6 (t:=r.td) hs hk.ts (by omega)) ?_;rintro _ w ⟨rfl,hs⟩
  refine .go ?_
  refine .z 7 rfl zg ?_;refine .done (by kernel_rfl) hs ?_
  refine .draw mix rfl hs ?_;intro w hs
  refine .z 0 rfl zm ?_;refine .z 1 rfl zm ?_;refine .z 2 rfl zm ?_;refine .z 4 rfl zm ?_;refine .z 5 rfl znc ?_;refine .z 6 rfl (zfa dr) ?_;refine .z 7 rfl (zfa aR) ?_;refine .ys 8 rfl hs [_,_,_,_,_,_] aT aH ?_;refine .z 9 rfl (zfa eD) ?_;refine .y 10 rfl hs af ?_
  refine .z 11 rfl (zfa eC) ?_;refine .y 12 rfl hs af ?_;refine .z 14 rfl (zfa cK) ?_;refine .y 15 rfl hs af ?_;refine .z 16 rfl (zfa ck) ?_;refine .y 17 rfl hs af ?_;refine .z 18 rfl cA ?_;refine .z 19 rfl (zfa ck) ?_;refine .y 20 rfl hs af ?_;refine .z 21 rfl (zfa cK) ?_
  refine .y 22 rfl hs af ?_;refine .z 23 rfl gM ?_;refine .z 24 rfl (zfa dX) ?_;refine .y 25 rfl hs af ?_
  refine .e1 (i:=3) (by kernel_rfl) rfl rfl .none hs ?_
  refine .call Ac rfl (iS (s:=s.sp) hs (.there .here) hk.st hk.wa ⟨by omega,by omega⟩ ⟨by omega,by omega⟩) ?_;rintro _ w ⟨rfl,hs⟩
  refine .go ?_
  refine .e1 (i:=13) (by kernel_rfl) rfl rfl .none hs ?_
  refine .call Tryz.call118 rfl (j5 (s:=s.sp) hs hk.wa (by omega) ⟨by omega,by omega⟩ ⟨by omega,by omega⟩) ?_;rintro _ w ⟨rfl,hs⟩
  refine .go ?_
  refine .e1 (i:=26) (by kernel_rfl) rfl rfl .none hs ?_
  refine .call ma rfl (fp (ls:=ls++tz s.sp ts s.rs i) (hs.sub (by repeat (first|exact Sub.refl _|constructor|apply Sub.weaken)):St H w (.blk bm _::en:: .blk b3 _::σ)) hO (by rw [List.length_append];omega)) ?_;rintro _ w ⟨vl3,en3,hO3,hs⟩
  refine .go ?_
  refine .done (by kernel_rfl) hs ?_
  refine nB (nT ?_)
  rw [List.append_assoc,show tz s.sp ts s.rs i++two ((s.sp.many:Int)+1+gS ts r.td) (1+r.st*s.sp.wa.length+r.wa) (r.val+r.tol) (r.tol - r.val) r.src=tz s.sp ts s.rs (i+1) by rw [←AI hx];rfl] at hO3
  exact .mk ⟨rfl,vl3,en3,hO3,hs.sub (by repeat (first|exact Sub.refl _|constructor|apply Sub.weaken))⟩
 ·rintro fr w ⟨rfl,vl,en,hO,hs⟩
  exact Fin.xC Tryz.results179 ⟨H,vl,en,HLe.refl _,hO,hs⟩
def fnK:Nat→Nat
 |0=>174
 |1=>175
 |2=>176
 |3=>177
 |4=>178
 |_=>179
theorem CR{k:Nat}(hk:k<6):∀args w,(callFunc (fnK k) args).run Tryz.prog w= .ok (.enter (fnK k) args) w:=by
 have h:k=0∨k=1∨k=2∨k=3∨k=4∨k=5:=by omega
 rcases h with rfl|rfl|rfl|rfl|rfl|rfl
 ·exact Tryz.call174
 ·exact Tryz.call175
 ·exact Tryz.call176
 ·exact Tryz.call177
 ·exact Tryz.call178
 ·exact Tryz.call179
theorem AT{H:bn}{w:World}{σ:List Ent}{s:Srv}{vst vwa vr vc vt vl:Value}{en:Ent}{bm k:Nat}(hs:St H w (.blk bm [I s.sp.id,I s.sp.src,vst,vwa,I s.sp.al,I s.sp.up,vr,vc,vt,vl]::en::σ))(hk:MkK H s s.bu vst vwa vr vc vt)(hO:cu 4 vl (fQ (s.parts k)) en)(he:s.early)(hk6:k<6):
  Cl Tryz.prog (fnK k) [.pointer (some ⟨bm,0,none⟩)] w fun _ w'=>∃H1 vl' en',HLe H H1∧cu 4 vl' (fQ (s.parts (k+1))) en'∧St H1 w' (.blk bm [I s.sp.id,I s.sp.src,vst,vwa,I s.sp.al,I s.sp.up,vr,vc,vt,vl']::en'::σ):=by
 have hl:=jD he k (by omega)
 obtain ⟨hok,h1,h2,h3,h4⟩:=he
 have htl:s.bu.length≤100:=by have:=cF s.rs;unfold Srv.bu;omega
 have h:k=0∨k=1∨k=2∨k=3∨k=4∨k=5:=by omega
 rcases h with rfl|rfl|rfl|rfl|rfl|rfl
 ·exact oS hs hk hO (Nat.le_trans hl (by decide)) hok
 ·exact rU hs hk hO (Nat.le_trans hl (by decide)) hok
 ·exact vD hs hk hO (Nat.le_trans hl (by decide)) hok
 ·exact qI hs hk hO (Nat.le_trans hl (by decide)) hok htl
 ·exact mM hs hk hO (Nat.le_trans hl (by decide)) hok htl h2 h4
 ·exact oR hs hk hO (Nat.le_trans hl (by decide)) hok htl h1 h3 fun r hr=>fR.2 ⟨r,hr,rfl⟩
def fnV(b:Nat)(k:Nat):Value:= .func (.func (fnK k)) #[.pointer (some ⟨b,0,none⟩)] #[]
theorem D0(b:Nat){k:Nat}(hk:k<6):[fnV b 0,fnV b 1,fnV b 2,fnV b 3,fnV b 4,fnV b 5][k]? =some (fnV b k):=by
 have h:k=0∨k=1∨k=2∨k=3∨k=4∨k=5:=by omega
 rcases h with rfl|rfl|rfl|rfl|rfl|rfl<;>rfl
set_option maxHeartbeats 1000000 in
theorem kO{H:bn}{w:World}{σ:List Ent}{s:Srv}{vst vwa vr vc:Value}(hs:St H w σ)(h1:RI H vst s.sp.st)(h2:RI H vwa s.sp.wa)(h3:RRd H vr s.rs)(h4:RCm H vc s.cs)(he:s.early):
  Cl Tryz.prog 92 [.agg #[I s.sp.id,I s.sp.src,vst,vwa,I s.sp.al,I s.sp.up,vr,vc]] w fun u w'=>∃H1 vl en,HLe H H1∧u= .agg #[I s.sys.many,vl]∧cu 4 vl (fQ s.cz) en∧St H1 w' (en::σ):=by
 have hsm:=eo he.1
 have htl:s.bu.length≤60:=by have:=cF s.rs;have:=he.2.1;unfold Srv.bu;omega
 refine Cl.of Tryz.func92 rfl Tryz.ntmps92 (by simp) (aj (k:=0) rfl (bh)) ?_
 refine .ai ?_
 refine .o (.box hs rfl rfl ?_);intro b1 w hs
 refine .o (.alloc hs bY rfl ?_);intro b2 w hs
 refine .nil ?_
 refine .seq (.draw mix rfl hs ?_);intro w hs
 refine .ys 0 rfl hs [_,_,_,_,_,_,_,_] aN aD ?_;refine .ys 1 rfl hs [_,_,_,_,_,_,_,_] aN aD ?_
 refine .e1 (i:=2) (by kernel_rfl) rfl rfl .none hs ?_
 refine .call BV rfl (iP hs h3 (by have:=he.2.1;omega)) ?_;rintro v8 w ⟨H1,hle1,hT,hs⟩
 obtain ⟨at_,ct,rfl⟩:=RTd.shape hT
 have hk0:MkK H1 s s.bu vst vwa vr vc (.slice at_ s.bu.length ct):=⟨h1.mono hle1,h2.mono hle1,h3.mono hle1,h4.mono hle1,hT⟩
 refine .go ?_
 refine .z 3 rfl (zbd (vs:=[(0,.agg #[I s.sp.id,I s.sp.src,vst,vwa,I s.sp.al,I s.sp.up,vr,vc]),(1,.slice at_ s.bu.length ct)]) [I s.sp.id,I s.sp.src,vst,vwa,I s.sp.al,I s.sp.up,vr,vc,.slice at_ s.bu.length ct,.slice none 0 0] lR rfl (by kernel_rfl)) ?_
 refine .e1 (i:=4) (by kernel_rfl) rfl rfl .none hs ?_
 refine .box hs rfl rfl ?_;intro b10 w hs
 refine .go ?_
 refine .z 5 rfl zg ?_;refine .done (by kernel_rfl) hs ?_
 refine .seq (.ai (.z zm ?_))
 refine .q hs (dC (f:=[_]) (c:=[]) rfl rfl) ?_
 refine .z zm ?_
 refine .q hs (dC (f:=[_]) (c:=[]) rfl rfl) ?_
 refine .z zm ?_
 refine .q hs (dC (f:=[_]) (c:=[]) rfl rfl) ?_
 refine .z zm ?_
 refine .q hs (dC (f:=[_]) (c:=[]) rfl rfl) ?_
 refine .z zm ?_
 refine .q hs (dC (f:=[_]) (c:=[]) rfl rfl) ?_
 refine .z zm ?_
 refine .q hs (dC (f:=[_]) (c:=[]) rfl rfl) ?_
 refine .o (.buildSlice (cells:=[fnV b10 0,fnV b10 1,fnV b10 2,fnV b10 3,fnV b10 4,fnV b10 5]) hs vZ rfl (by kernel_rfl) ?_);intro b23 w hs
 refine .z (cM tH) ?_
 refine .z zm (.nil ?_)
 refine .for (N:=6) (J:=fun k fr w=>fr=[(23,.slice (some ⟨b23,0,none⟩) 6 6),(3,.pointer (some ⟨b10,0,none⟩)),(2,.pointer (some ⟨b2,0,none⟩)),(1,.pointer (some ⟨b1,0,none⟩))]∧∃H2 vl en,HLe H1 H2∧cu 4 vl (fQ (s.parts k)) en∧St H2 w (.blk b10 [I s.sp.id,I s.sp.src,vst,vwa,I s.sp.al,I s.sp.up,vr,vc,.slice at_ s.bu.length ct,vl]::en:: .blk b23 [fnV b10 0,fnV b10 1,fnV b10 2,fnV b10 3,fnV b10 4,fnV b10 5]:: .blk b2 [I 0,.slice none 0 0]:: .blk b1 [I s.sp.id,I s.sp.src,vst,vwa,I s.sp.al,I s.sp.up,vr,vc]::σ)) (by omega) ?_ ?_ ?_
 ·exact .mk ⟨rfl,H1,.slice none 0 0,.nul,HLe.refl _,.nil 4 none,hs.nul.sub (by repeat (first|exact Sub.refl _|constructor|apply Sub.weaken))⟩
 ·rintro k fr w hk ⟨rfl,H2,vl,en,hle2,hO,hs⟩
  refine .block (.ai ?_)
  refine .z (zix tH Tryz.sizeOf1) ?_
  refine .q hs (dE rfl Tryz.isAgg1 (hv:=D0 b10 hk)) ?_
  refine .z zg (.nil (.region (.z zm ?_)))
  refine .o (.p5 (first:=[.pointer (some ⟨b10,0,none⟩)]) (cap:=[]) rfl rfl (CR hk) (AT hs (hk0.mono hle2) hO he hk) ?_);rintro _ w ⟨H3,vl3,en3,hle3,hO3,hs⟩
  refine .nil ?_
  refine nB (nT ?_)
  exact .mk ⟨rfl,H3,vl3,en3,hle2.trans hle3,hO3,hs⟩
 ·rintro fr w ⟨rfl,H2,vl,en,hle2,hO,hs⟩
  rw [s.s4] at hO
  obtain ⟨al,ll,cl,rfl,hll⟩:=hO.shape
  refine nT ?_
  refine .seq (.draw mix rfl hs ?_);intro w hs
  refine .z 0 rfl (zfa aR) ?_;refine .ys 1 rfl hs [_,_,_,_,_,_] aT aH ?_;refine .z 3 rfl zm ?_;refine .z 4 rfl znc ?_;refine .z 5 rfl (zfa fi) ?_;refine .y 6 rfl hs tS ?_;refine .z 7 rfl (cM aF) ?_;refine .z 9 rfl zm ?_;refine .z 10 rfl znc ?_;refine .z 11 rfl (zfa gv) ?_
  refine .y 12 rfl hs cD ?_
  refine .e1 (i:=2) (by kernel_rfl) rfl rfl .none hs ?_
  refine .call wF rfl (fF (s:=s.sp) hs (h1.mono (hle1.trans hle2)) (h2.mono (hle1.trans hle2)) ⟨by omega,by omega⟩) ?_;rintro _ w ⟨rfl,hs⟩
  refine .go ?_
  refine .z 8 rfl cA ?_;refine .z 13 rfl (zbd [_,_] gg) ?_
  refine .e1 (i:=14) (by kernel_rfl) rfl rfl .none hs ?_
  refine .aS (vs:=[_,_]) hs rfl rfl aB ?_;intro w hs
  refine .go ?_
  refine .done (by kernel_rfl) hs ?_
  refine .ret ?_
  replace hs:St H2 w (.blk b2 [I ((s.sp.many:Int)+(s.bu.length:Int)),.slice al ll cl]::en::σ):=hs.sub (by repeat (first|exact Sub.refl _|constructor|apply Sub.weaken))
  exact Fin.iG [] [] hs fun w hs=>⟨_,results1 Tryz.results92 (dH (vs:=[_,_]) hs rfl aU aB),H2,_,en,hle1.trans hle2,by show _=Value.agg #[I ((s.sp.many+s.bu.length:Nat):Int),_];rw [Int.natCast_add],hO,hs.tail⟩
theorem eV{H:bn}{w:World}{σ:List Ent}{s:Srv}{vst vwa vr vc:Value}(hs:St H w σ)(h1:RI H vst s.sp.st)(h2:RI H vwa s.sp.wa)(h3:RRd H vr s.rs)(h4:RCm H vc s.cs)(he:s.early):
  Cl Tryz.prog 92 [.agg #[I s.sp.id,I s.sp.src,vst,vwa,I s.sp.al,I s.sp.up,vr,vc]] w fun u w'=>∃H1,HLe H H1∧RSy H1 u s.sys∧St H1 w' σ:=by
 refine (kO hs h1 h2 h3 h4 he).mono ?_
 rintro u w' ⟨H1,vl,en,hle,rfl,hO,hs⟩
 have hl:=jD he 6 (by omega)
 rw [s.s4] at hl
 obtain ⟨H2,hle2,hR,hs⟩:=cu.cP (m:=4) (cs:=s.cz.map Lim.c) hO (fun c hc=>by simp only [List.mem_map] at hc;obtain ⟨x,_,rfl⟩:=hc;rfl) (by omega) (by rw [List.length_map];omega) hs .here
 exact ⟨H2,hle.trans hle2,⟨vl,rfl,hR⟩,hs⟩
set_option maxHeartbeats 1000000 in
theorem gq{H:bn}{w:World}{σ:List Ent}{s:Srv}{vst vwa vr vc:Value}(hs:St H w σ)(h1:RI H vst s.sp.st)(h2:RI H vwa s.sp.wa)(h3:RRd H vr s.rs)(h4:RCm H vc s.cs):
  Cl Tryz.prog 42 [.agg #[I s.sp.id,I s.sp.src,vst,vwa,I s.sp.al,I s.sp.up,vr,vc]] w fun u w'=>∃H1 e,HLe H H1∧u=I e∧uS s e∧St H1 w' σ:=by
 obtain ⟨ast,cst,rfl⟩:=RI.shape h1
 obtain ⟨awa,cwa,rfl⟩:=RI.shape h2
 obtain ⟨ar,cr,rfl⟩:=RRd.shape h3
 obtain ⟨ac,cc,rfl⟩:=RCm.shape h4
 refine Cl.of Tryz.func42 rfl Tryz.ntmps42 (by simp) (aj (k:=0) rfl (bh)) ?_
 refine .ai ?_
 refine .o (.box hs rfl rfl ?_);intro b1 w hs
 refine .z zg (.nil (.seq (.ai (.z (zfa aR) (.y hs (zls [_,_,_,_,_,_] aT aH) ?_)))))
 refine .o (.call Tryz.call41 rfl (iQ (s:=s.sp) hs h1 h2) ?_);rintro _ w ⟨H1,e,hle1,rfl,he,hs⟩
 refine .z zg (.nil (.ai (.z zm (.z iA (.nil ?_)))))
 refine (.e9 rfl (fun hc13=>?_) (fun hc13=>?_))
 ·refine .ai (.z zm (.z zg (.nil ?_)))
  refine .ret (rT (Fin.bI iz rfl ?_))
  have hq:¬fB s.sp∧e=30:=he.resolve_left fun h=>hc13 h.2
  exact ⟨H1,_,hle1,rfl,by rw [hq.2];exact .space hq.1,hs.out⟩
 ·refine .skip ?_
  refine nT ?_
  refine .seq (.ai (.z (zfa aJ) ?_))
  have hok:fB s.sp:=(he.resolve_right fun h=>by omega).1
  refine .y hs (zld bp) (.z (cM au) (.z lk (.z zm ?_)))
  refine .iE (t':=19) rfl (fun hb19=>?_) (fun hb19=>?_)
  ·refine .gFs 4 4 false rfl rfl rfl ?_
   refine .z zpT (.nil ?_)
   refine (.fj rfl (by first|rfl|exact decide_eq_true (by assumption)) ?_)
   refine .ai (.z zg (.nil ?_))
   refine .ret (rT (Fin.bI iz rfl ?_))
   exact ⟨H1,_,hle1,rfl,.long hok (by omega),hs.out⟩
  ·refine .gT rfl rfl ?_
   refine .z (zfa bT) ?_
   refine .gT rfl rfl ?_
   refine .y hs (zld dD) ?_
   refine .gT rfl rfl ?_
   refine .z (cM aV) ?_
   refine .gT rfl rfl ?_
   refine .z lk (.z zpF (.nil ?_))
   refine (.bJ rfl (fun hc24=>?_) (fun hc24=>?_))
   ·refine .ai (.z zg (.nil ?_))
    refine .ret (rT (Fin.bI iz rfl ?_))
    exact ⟨H1,_,hle1,rfl,.long hok (by omega),hs.out⟩
   ·refine .skip ?_
    refine nT ?_
    refine .seq (.ai (.z (zfa aJ) (.y hs (zld bp) (.z (cM au) (.z zm (.nil ?_))))))
    refine .for (N:=s.rs.length) (J:=fun k fr w=>fr=[(26,.slice ar s.rs.length cr),(1,.pointer (some ⟨b1,0,none⟩))]∧(∀j<k,∀y,s.rs[j]? =some y→jt s.sp y)∧St H1 w (.blk b1 [I s.sp.id,I s.sp.src,.slice ast s.sp.st.length cst,.slice awa s.sp.wa.length cwa,I s.sp.al,I s.sp.up,.slice ar s.rs.length cr,.slice ac s.cs.length cc]::σ)) (by omega) ?_ ?_ ?_
    ·exact .mk ⟨rfl,fun j hj=>by omega,hs⟩
    ·rintro k fr w hk ⟨rfl,hno,hs⟩
     obtain ⟨r,hx⟩:=nth hk
     refine .block (.ai ?_)
     refine .ixX (enc:=Rdg.c) hs (h3.mono hle1) rfl rfl au aE hx (by first|rfl|assumption|omega) ?_;intro b30 o30 hc30
     refine .q hs (cj (vs:=(Rdg.c r)) rfl du aE hc30) ?_
     refine .o (.alloc hs dS rfl ?_);intro b5 w hs
     refine .o (.aS (vs:=r.c) hs rfl rfl aE ?_);intro w hs
     change St _ _ (.blk b5 [I r.src,I r.st,I r.wa,I r.val,I r.tol,I r.tape,I r.day]::_) at hs
     refine .nil (.ai (.z (zfa aR) (.y hs (zls [_,_,_,_,_,_] aT aH) (.y hs (zls [_,_,_,_,_,_,_] du aE) ?_))))
     refine .o (.call Tryz.call107 rfl (jf (s:=s.sp) (r:=r) hs (h1.mono hle1) (h2.mono hle1)) ?_);rintro _ w ⟨b35,rfl,hb35,hs⟩
     refine .z iI (.nil ?_)
     refine (.cond rfl (fun hc36=>?_) (fun hc36=>?_))
     ·refine .ai (.z zg (.nil ?_))
      refine .ret (rB (rT (rB (rT (Fin.bI iz rfl ?_)))))
      exact ⟨H1,_,hle1,rfl,.rdg hok (by omega) (fun h=>by rw [hb35.2 (h r (List.mem_of_getElem? hx))] at hc36;cases hc36),hs.out⟩
     ·refine .skip ?_
      refine nB (nT ?_)
      exact .mk ⟨rfl,eK hno hx (hb35.1 (by simpa using hc36)),hs.tail⟩
    ·rintro fr w ⟨rfl,hno,hs⟩
     have hrs:∀r∈s.rs,jt s.sp r:=fun r hr=>by
      obtain ⟨j,hj⟩:=List.getElem?_of_mem hr
      exact hno j (List.getElem?_eq_some_iff.1 hj).1 r hj
     clear hno
     refine nT ?_
     refine .seq (.ai (.z (zfa bT) (.y hs (zld dD) (.z (cM aV) (.z zm (.nil ?_))))))
     refine .for (N:=s.cs.length) (J:=fun k fr w=>fr=[(39,.slice ac s.cs.length cc),(1,.pointer (some ⟨b1,0,none⟩))]∧(∀j<k,∀y,s.cs[j]? =some y→pa y)∧St H1 w (.blk b1 [I s.sp.id,I s.sp.src,.slice ast s.sp.st.length cst,.slice awa s.sp.wa.length cwa,I s.sp.al,I s.sp.up,.slice ar s.rs.length cr,.slice ac s.cs.length cc]::σ)) (by omega) ?_ ?_ ?_
     ·exact .mk ⟨rfl,fun j hj=>by omega,hs⟩
     ·rintro k fr w hk ⟨rfl,hno,hs⟩
      obtain ⟨c,hx⟩:=nth hk
      refine .block (.ai ?_)
      refine .ixX (enc:=Cmp.c) hs (h4.mono hle1) rfl rfl aV bX hx (by first|rfl|assumption|omega) ?_;intro b43 o43 hc43
      refine .q hs (cj (vs:=(Cmp.c c)) rfl rn bX hc43) ?_
      refine .o (.alloc hs lr rfl ?_);intro b7 w hs
      refine .o (.aS (vs:=c.c) hs rfl rfl bX ?_);intro w hs
      change St _ _ (.blk b7 [I c.src,I c.tape,I c.fr,I c.to,I c.lo,I c.hi]::_) at hs
      refine .nil (.ai (.y hs (zls [_,_,_,_,_,_] rn bX) ?_))
      refine .o (.call Tryz.call108 rfl (mL (c:=c) hs) ?_);rintro _ w ⟨b46,rfl,hb46,hs⟩
      refine .z iI (.nil ?_)
      refine (.cond rfl (fun hc47=>?_) (fun hc47=>?_))
      ·refine .ai (.z zg (.nil ?_))
       refine .ret (rB (rT (rB (rT (Fin.bI iz rfl ?_)))))
       exact ⟨H1,_,hle1,rfl,.cmp hok (by omega) hrs (fun h=>by rw [hb46.2 (h c (List.mem_of_getElem? hx))] at hc47;cases hc47),hs.out⟩
      ·refine .skip ?_
       refine nB (nT ?_)
       exact .mk ⟨rfl,eK hno hx (hb46.1 (by simpa using hc47)),hs.tail⟩
     ·rintro fr w ⟨rfl,hno,hs⟩
      have hcs:∀c∈s.cs,pa c:=fun c hc=>by
       obtain ⟨j,hj⟩:=List.getElem?_of_mem hc
       exact hno j (List.getElem?_eq_some_iff.1 hj).1 c hj
      have hea:s.early:=⟨hok,by omega,by omega,hrs,hcs⟩
      have hsm:=eo hok
      have htl:s.bu.length≤60:=by have:=cF s.rs;have:=hea.2.1;unfold Srv.bu;omega
      have hll:=jD hea 6 (by omega)
      rw [s.s4] at hll
      have hsm2:s.sys.many=((s.sp.many+s.bu.length:Nat):Int):=rfl
      refine nT ?_
      refine .seq (.ai (.y hs (zls [_,_,_,_,_,_,_,_] aN aD) ?_))
      refine .o (.call rq rfl (eV (s:=s) hs (h1.mono hle1) (h2.mono hle1) (h3.mono hle1) (h4.mono hle1) hea) ?_);rintro _ w ⟨H2,hle2,⟨ul,rfl,hL⟩,hs⟩
      obtain ⟨al,cl,rfl⟩:=RL.shape hL
      have hsl:s.sys.cz.length=s.cz.length:=rfl
      refine .o (.alloc hs bY rfl ?_);intro b8 w hs
      refine .o (.aS (vs:=[_,_]) hs rfl rfl aB ?_);intro w hs
      refine .nil (.ai (.z (zfa bE) (.y hs (zld af) (.z lk (.z zm ?_)))))
      refine .iE (t':=54) rfl (fun hb54=>?_) (fun hb54=>?_)
      ·refine .gFs 4 3 false rfl rfl rfl ?_
       refine .z zpT (.nil ?_)
       refine (.fj rfl (by first|rfl|exact decide_eq_true (by assumption)) ?_)
       refine .ai (.z zg (.nil ?_))
       refine .ret (rT (Fin.bI iz rfl ?_))
       exact ⟨H2,_,hle1.trans hle2,rfl,.big hea (by omega),hs.out⟩
      ·refine .gT rfl rfl ?_
       refine .z (zfa bD) ?_
       refine .gT rfl rfl ?_
       refine .y hs (zld cD) ?_
       refine .gT rfl rfl ?_
       refine .z (cM aQ) ?_
       refine .gT rfl rfl ?_
       refine .z lk (.z zpF (.nil ?_))
       refine (.bJ rfl (fun hc59=>?_) (fun hc59=>?_))
       ·refine .ai (.z zg (.nil ?_))
        refine .ret (rT (Fin.bI iz rfl ?_))
        exact ⟨H2,_,hle1.trans hle2,rfl,.big hea (by omega),hs.out⟩
       ·refine .skip ?_
        refine nT ?_
        refine .ai (.z zg (.nil ?_))
        refine .ret (Fin.bI iz rfl ?_)
        exact ⟨H2,_,hle1.trans hle2,rfl,.ok hea ⟨by omega,by omega⟩,hs.out⟩
theorem de{H:bn}{w:World}{σ:List Ent}{a0 a1 a2:Int}(hs:St H w σ):Cl Tryz.prog 83 [I a0,I a1,I a2] w fun v w'=>v= .bool (decide (a1≤a0∧a0≤a2))∧St H w' σ:=by
 refine Cl.of Tryz.func83 rfl Tryz.ntmps83 (by simp) (aj (k:=0) rfl (aj (k:=1) rfl (aj (k:=2) rfl (bh)))) ?_
 refine .ai (.z zg (.nil (.ai (.z zm (.z zm (.z wI (.z zm ?_)))))))
 refine .iE (t':=10) rfl (fun hb10=>?_) (fun hb10=>?_)
 ·refine .gT rfl rfl ?_
  refine .z zm ?_
  refine .gT rfl rfl ?_
  refine .z zm ?_
  refine .gT rfl rfl ?_
  refine .z wH (.z zpT (.z zg (.nil ?_)))
  refine .ret (Fin.bI Tryz.results83 rfl ?_)
  exact ⟨by simp [*],hs.out⟩
 ·refine .gFs 3 3 true rfl rfl rfl ?_
  refine .z zpF (.z zg (.nil ?_))
  refine .ret (Fin.bI Tryz.results83 rfl ?_)
  exact ⟨by simp [*],hs.out⟩
theorem spc_of{s:Spc}(h1:eu 9 100000 s.st)(h2:eu 9 100000 s.wa)(h3:s.wa.length≤7)(h4:gi s.wa (s.wa.length - 1)≤15000)(h5:1≤s.id∧s.id≤99999)(h6:1≤s.src∧s.src≤99999)(h7:0≤s.al∧s.al≤100000)(h8:0≤s.up∧s.up≤100000):fB s:=
 ⟨h1,⟨h2.two,h3,h2.low,h4,h2.rise⟩,h5,h6,h7,h8⟩
theorem xS{s:Spc}(h:fB s):eu 9 100000 s.wa:=⟨h.wa.two,by have:=h.wa.many;omega,h.wa.low,by have:=h.wa.high;omega,h.wa.rise⟩
theorem jA{H:bn}{w:World}{σ:List Ent}{s:Spc}{vst vwa:Value}(hs:St H w σ)(h1:RI H vst s.st)(h2:RI H vwa s.wa):
  Cl Tryz.prog 24 [.agg #[I s.id,I s.src,vst,vwa,I s.al,I s.up]] w fun v w'=>∃e,v=I e∧((fB s∧e=0)∨(¬fB s∧e=30))∧St H w' σ:=by
 obtain ⟨ast,cst,rfl⟩:=RI.shape h1
 obtain ⟨awa,cwa,rfl⟩:=RI.shape h2
 have l2:=(RI.len h2).2.2
 refine Cl.of Tryz.func24 rfl Tryz.ntmps24 (by simp) (aj (k:=0) rfl (bh)) ?_
 refine .ai ?_
 refine .o (.box hs rfl rfl ?_);intro b1 w hs
 refine .z zg (.nil (.seq (.ai (.z (zfa lh) (.y hs (zld af) ?_)))))
 refine .o (.call eR rfl (de hs) ?_);rintro _ w ⟨rfl,hs⟩
 refine .z iI (.z zm ?_)
 refine .bif (t':=7) rfl (fun hb7=>?_) (fun hb7=>?_)
 ·refine .gFs 4 4 false rfl rfl rfl ?_
  refine .z zpT (.z zm ?_)
  refine .gFs 5 10 false rfl rfl rfl ?_
  refine .z zpT (.z zm ?_)
  refine .gFs 5 17 false rfl rfl rfl ?_
  refine .z zpT (.nil ?_)
  refine (.fj rfl (by first|rfl|exact decide_eq_true (by assumption)) ?_)
  refine .ai (.z zg (.nil ?_))
  refine .ret (rT (Fin.bI gx rfl ?_))
  exact ⟨_,rfl,.inr ⟨fun h=>by have:=h.id;simp_all,rfl⟩,hs.out⟩
 ·refine .gT rfl rfl ?_
  refine .z (zfa dm) ?_
  refine .gT rfl rfl ?_
  refine .y hs (zld af) ?_
  refine .gT rfl rfl ?_
  refine .o (.call eR rfl (de hs) ?_);rintro _ w ⟨rfl,hs⟩
  refine .gT rfl rfl ?_
  refine .z iI (.z zpF (.z zm ?_))
  refine .bif (t':=13) rfl (fun hb13=>?_) (fun hb13=>?_)
  ·refine .gFs 5 10 false rfl rfl rfl ?_
   refine .z zpT (.z zm ?_)
   refine .gFs 5 17 false rfl rfl rfl ?_
   refine .z zpT (.nil ?_)
   refine (.fj rfl (by first|rfl|exact decide_eq_true (by assumption)) ?_)
   refine .ai (.z zg (.nil ?_))
   refine .ret (rT (Fin.bI gx rfl ?_))
   exact ⟨_,rfl,.inr ⟨fun h=>by have:=h.src;simp_all,rfl⟩,hs.out⟩
  ·refine .gT rfl rfl ?_
   refine .z (zfa dO) ?_
   refine .gT rfl rfl ?_
   refine .z (zfa iV) ?_
   refine .gT rfl rfl ?_
   refine .y hs (zld af) ?_
   refine .gT rfl rfl ?_
   refine .o (.call eR rfl (de hs) ?_);rintro _ w ⟨rfl,hs⟩
   refine .gT rfl rfl ?_
   refine .z iI (.z zpF (.z zm ?_))
   refine .bif (t':=20) rfl (fun hb20=>?_) (fun hb20=>?_)
   ·refine .gFs 5 17 false rfl rfl rfl ?_
    refine .z zpT (.nil ?_)
    refine (.fj rfl (by first|rfl|exact decide_eq_true (by assumption)) ?_)
    refine .ai (.z zg (.nil ?_))
    refine .ret (rT (Fin.bI gx rfl ?_))
    exact ⟨_,rfl,.inr ⟨fun h=>by have:=h.al;simp_all,rfl⟩,hs.out⟩
   ·refine .gT rfl rfl ?_
    refine .z (zfa dO) ?_
    refine .gT rfl rfl ?_
    refine .z (zfa iU) ?_
    refine .gT rfl rfl ?_
    refine .y hs (zld af) ?_
    refine .gT rfl rfl ?_
    refine .o (.call eR rfl (de hs) ?_);rintro _ w ⟨rfl,hs⟩
    refine .gT rfl rfl ?_
    refine .z iI (.z zpF (.nil ?_))
    refine (.cond rfl (fun hc26=>?_) (fun hc26=>?_))
    ·refine .ai (.z zg (.nil ?_))
     refine .ret (rT (Fin.bI gx rfl ?_))
     exact ⟨_,rfl,.inr ⟨fun h=>by have:=h.up;simp_all,rfl⟩,hs.out⟩
    ·refine .skip ?_
     refine nT ?_
     refine .seq (.ai (.z (zfa bA) (.y hs (zld ak) ?_)))
     refine .o (.call Tryz.call84 rfl (gp hs h1) ?_);rintro _ w ⟨e1,rfl,he1,hs⟩
     refine .z iA (.z zm ?_)
     refine .yu (t':=31) rfl (fun hb31=>?_) (fun hb31=>?_)
     ·refine .gFs 4 4 false rfl rfl rfl ?_
      refine .z zpT (.z zm ?_)
      refine .gFs 4 10 false rfl rfl rfl ?_
      refine .z zpT (.z zm ?_)
      refine .gFs 9 16 false rfl rfl rfl ?_
      refine .z zpT (.nil ?_)
      refine (.fj rfl (by first|rfl|exact decide_eq_true (by assumption)) ?_)
      refine .ai (.z zg (.nil ?_))
      refine .ret (rT (Fin.bI gx rfl ?_))
      exact ⟨_,rfl,.inr ⟨fun h=>hb31 (he1.elim (fun g=>g.2) fun g=>(g.1 h.st).elim),rfl⟩,hs.out⟩
     ·refine .gT rfl rfl ?_
      refine .z (zfa bg) ?_
      refine .gT rfl rfl ?_
      refine .y hs (zld ak) ?_
      refine .gT rfl rfl ?_
      refine .o (.call Tryz.call84 rfl (gp hs h2) ?_);rintro _ w ⟨e2,rfl,he2,hs⟩
      refine .gT rfl rfl ?_
      refine .z iA (.z zpF (.z zm ?_))
      refine .yu (t':=37) rfl (fun hb37=>?_) (fun hb37=>?_)
      ·refine .gFs 4 10 false rfl rfl rfl ?_
       refine .z zpT (.z zm ?_)
       refine .gFs 9 16 false rfl rfl rfl ?_
       refine .z zpT (.nil ?_)
       refine (.fj rfl (by first|rfl|exact decide_eq_true (by assumption)) ?_)
       refine .ai (.z zg (.nil ?_))
       refine .ret (rT (Fin.bI gx rfl ?_))
       exact ⟨_,rfl,.inr ⟨fun h=>hb37 (he2.elim (fun g=>g.2) fun g=>(g.1 (xS h)).elim),rfl⟩,hs.out⟩
      ·refine .gT rfl rfl ?_
       refine .z (zfa bg) ?_
       refine .gT rfl rfl ?_
       have hw:eu 9 100000 s.wa:=he2.elim (fun g=>g.1) fun g=>(g.2 (by omega)).elim
       have hw2:=hw.two
       refine .y hs (zld ak) ?_
       refine .gT rfl rfl ?_
       refine .z (cM aa) ?_
       refine .gT rfl rfl ?_
       refine .z lk (.z zpF (.z zm ?_))
       refine .iE (t':=43) rfl (fun hb43=>?_) (fun hb43=>?_)
       ·refine .gFs 9 16 false rfl rfl rfl ?_
        refine .z zpT (.nil ?_)
        refine (.fj rfl (by first|rfl|exact decide_eq_true (by assumption)) ?_)
        refine .ai (.z zg (.nil ?_))
        refine .ret (rT (Fin.bI gx rfl ?_))
        exact ⟨_,rfl,.inr ⟨fun h=>by have:=h.wa.many;omega,rfl⟩,hs.out⟩
       ·refine .gT rfl rfl ?_
        refine .z (zfa bg) ?_
        refine .gT rfl rfl ?_
        refine .y hs (zld ak) ?_
        refine .gT rfl rfl ?_
        refine .z (zfa bg) ?_
        refine .gT rfl rfl ?_
        refine .y hs (zld ak) ?_
        refine .gT rfl rfl ?_
        refine .z (cM aa) ?_
        refine .gT rfl rfl ?_
        refine .z gM ?_
        refine .gT rfl rfl ?_
        refine .ixY hs h2 rfl rfl aa ae (br (l:=s.wa) (i:=(s.wa.length-1)) (by omega)) (by first|rfl|assumption|omega) ?_;intro b50 o50 hc50
        refine .gT rfl rfl ?_
        refine .q hs (aM rfl af hc50) ?_
        refine .gT rfl rfl ?_
        refine .z lk (.z zpF (.nil ?_))
        refine (.bJ rfl (fun hc53=>?_) (fun hc53=>?_))
        ·refine .ai (.z zg (.nil ?_))
         refine .ret (rT (Fin.bI gx rfl ?_))
         exact ⟨_,rfl,.inr ⟨fun h=>by have:=h.wa.high;omega,rfl⟩,hs.out⟩
        ·refine .skip ?_
         refine nT ?_
         refine .ai (.z zg (.nil ?_))
         refine .ret (Fin.bI gx rfl ?_)
         exact ⟨_,rfl,.inl ⟨spc_of (he1.elim (fun g=>g.1) fun g=>(g.2 (by omega)).elim) hw (by omega) (by omega) (by simp_all) (by simp_all) (by simp_all) (by simp_all),rfl⟩,hs.out⟩
theorem iL{H:bn}{w:World}{σ:List Ent}{s:Spc}{r:Rdg}{vst vwa:Value}(hs:St H w σ)(h1:RI H vst s.st)(h2:RI H vwa s.wa):
  Cl Tryz.prog 109 [.agg #[I s.id,I s.src,vst,vwa,I s.al,I s.up],.agg #[I r.src,I r.st,I r.wa,I r.val,I r.tol,I r.tape,I r.day]] w fun v w'=>∃b:Bool,v= .bool b∧(b=true↔jt s r)∧St H w' σ:=by
 obtain ⟨ast,cst,rfl⟩:=RI.shape h1
 obtain ⟨awa,cwa,rfl⟩:=RI.shape h2
 have l1:=(RI.len h1).2.2
 have l2:=(RI.len h2).2.2
 refine Cl.of Tryz.func109 rfl Tryz.ntmps109 (by simp) (aj (k:=0) rfl (aj (k:=1) rfl (bh))) ?_
 refine .ai ?_
 refine .o (.box hs rfl rfl ?_);intro b2 w hs
 refine .o (.box hs rfl rfl ?_);intro b3 w hs
 refine .z zg (.nil (.ai (.z (zfa dX) (.y hs (zld af) ?_))))
 refine .o (.call eR rfl (de hs) ?_);rintro _ w ⟨rfl,hs⟩
 refine .z zm ?_
 refine .bif (t':=8) rfl (fun hb8=>?_) (fun hb8=>?_)
 ·refine .gT rfl rfl ?_
  refine .z (zfa eD) ?_
  refine .gT rfl rfl ?_
  refine .y hs (zld af) ?_
  refine .gT rfl rfl ?_
  refine .z (zfa bA) ?_
  refine .gT rfl rfl ?_
  refine .y hs (zld ak) ?_
  refine .gT rfl rfl ?_
  refine .z (cM aa) ?_
  refine .gT rfl rfl ?_
  refine .z gM ?_
  refine .gT rfl rfl ?_
  refine .o (.call eR rfl (de hs) ?_);rintro _ w ⟨rfl,hs⟩
  refine .z zpT (.z zm ?_)
  refine .bif (t':=17) rfl (fun hb17=>?_) (fun hb17=>?_)
  ·refine .gT rfl rfl ?_
   refine .z (zfa eC) ?_
   refine .gT rfl rfl ?_
   refine .y hs (zld af) ?_
   refine .gT rfl rfl ?_
   refine .z (zfa bg) ?_
   refine .gT rfl rfl ?_
   refine .y hs (zld ak) ?_
   refine .gT rfl rfl ?_
   refine .z (cM aa) ?_
   refine .gT rfl rfl ?_
   refine .z gM ?_
   refine .gT rfl rfl ?_
   refine .o (.call eR rfl (de hs) ?_);rintro _ w ⟨rfl,hs⟩
   refine .z zpT (.z zm ?_)
   refine .bif (t':=26) rfl (fun hb26=>?_) (fun hb26=>?_)
   ·refine .gT rfl rfl ?_
    refine .z (zfa ck) ?_
    refine .gT rfl rfl ?_
    refine .y hs (zld af) ?_
    refine .gT rfl rfl ?_
    refine .o (.call eR rfl (de hs) ?_);rintro _ w ⟨rfl,hs⟩
    refine .z zpT (.z zm ?_)
    refine .bif (t':=31) rfl (fun hb31=>?_) (fun hb31=>?_)
    ·refine .gT rfl rfl ?_
     refine .z (zfa cK) ?_
     refine .gT rfl rfl ?_
     refine .y hs (zld af) ?_
     refine .gT rfl rfl ?_
     refine .z (zfa ck) ?_
     refine .gT rfl rfl ?_
     refine .y hs (zld af) ?_
     refine .gT rfl rfl ?_
     have ht:0≤r.tol∧r.tol≤1000:=by simp_all
     refine .z gM ?_
     refine .gT rfl rfl ?_
     refine .o (.call eR rfl (de hs) ?_);rintro _ w ⟨rfl,hs⟩
     refine .z zpT (.z zm ?_)
     refine .bif (t':=39) rfl (fun hb39=>?_) (fun hb39=>?_)
     ·refine .gT rfl rfl ?_
      refine .z (zfa dW) ?_
      refine .gT rfl rfl ?_
      refine .y hs (zld af) ?_
      refine .gT rfl rfl ?_
      refine .o (.call eR rfl (de hs) ?_);rintro _ w ⟨rfl,hs⟩
      refine .z zpT (.z zm ?_)
      refine .bif (t':=44) rfl (fun hb44=>?_) (fun hb44=>?_)
      ·refine .gT rfl rfl ?_
       refine .z (zfa dV) ?_
       refine .gT rfl rfl ?_
       refine .y hs (zld af) ?_
       refine .gT rfl rfl ?_
       refine .o (.call eR rfl (de hs) ?_);rintro _ w ⟨rfl,hs⟩
       refine .z zpT (.z zg (.nil ?_))
       refine .ret (Fin.bI jc rfl ?_)
       first
       |exact ⟨false,rfl,⟨fun h=>(by cases h),fun h=>(by obtain ⟨g1,g2,g3,g4,g5,g6,g7⟩:=h;simp_all;done)⟩,hs.out⟩
       |exact ⟨_,rfl,⟨fun h=>⟨by simp_all,by simp_all,by simp_all,by simp_all,by simp_all,by simp_all,by simpa using h⟩,fun h=>by simpa using h.day⟩,hs.out⟩
      ·refine .gFs 3 39 true rfl rfl rfl ?_
       refine .z zpF (.z zg (.nil ?_))
       refine .ret (Fin.bI jc rfl ?_)
       first
       |exact ⟨false,rfl,⟨fun h=>(by cases h),fun h=>(by obtain ⟨g1,g2,g3,g4,g5,g6,g7⟩:=h;simp_all;done)⟩,hs.out⟩
       |exact ⟨_,rfl,⟨fun h=>⟨by simp_all,by simp_all,by simp_all,by simp_all,by simp_all,by simp_all,by simpa using h⟩,fun h=>by simpa using h.day⟩,hs.out⟩
     ·refine .gFs 3 34 true rfl rfl rfl ?_
      refine .z zpF (.z zm ?_)
      refine .gFs 3 39 true rfl rfl rfl ?_
      refine .z zpF (.z zg (.nil ?_))
      refine .ret (Fin.bI jc rfl ?_)
      first
      |exact ⟨false,rfl,⟨fun h=>(by cases h),fun h=>(by obtain ⟨g1,g2,g3,g4,g5,g6,g7⟩:=h;simp_all;done)⟩,hs.out⟩
      |exact ⟨_,rfl,⟨fun h=>⟨by simp_all,by simp_all,by simp_all,by simp_all,by simp_all,by simp_all,by simpa using h⟩,fun h=>by simpa using h.day⟩,hs.out⟩
    ·refine .gFs 6 26 true rfl rfl rfl ?_
     refine .z zpF (.z zm ?_)
     refine .gFs 3 34 true rfl rfl rfl ?_
     refine .z zpF (.z zm ?_)
     refine .gFs 3 39 true rfl rfl rfl ?_
     refine .z zpF (.z zg (.nil ?_))
     refine .ret (Fin.bI jc rfl ?_)
     first
     |exact ⟨false,rfl,⟨fun h=>(by cases h),fun h=>(by obtain ⟨g1,g2,g3,g4,g5,g6,g7⟩:=h;simp_all;done)⟩,hs.out⟩
     |exact ⟨_,rfl,⟨fun h=>⟨by simp_all,by simp_all,by simp_all,by simp_all,by simp_all,by simp_all,by simpa using h⟩,fun h=>by simpa using h.day⟩,hs.out⟩
   ·refine .gFs 3 21 true rfl rfl rfl ?_
    refine .z zpF (.z zm ?_)
    refine .gFs 6 26 true rfl rfl rfl ?_
    refine .z zpF (.z zm ?_)
    refine .gFs 3 34 true rfl rfl rfl ?_
    refine .z zpF (.z zm ?_)
    refine .gFs 3 39 true rfl rfl rfl ?_
    refine .z zpF (.z zg (.nil ?_))
    refine .ret (Fin.bI jc rfl ?_)
    first
    |exact ⟨false,rfl,⟨fun h=>(by cases h),fun h=>(by obtain ⟨g1,g2,g3,g4,g5,g6,g7⟩:=h;simp_all;done)⟩,hs.out⟩
    |exact ⟨_,rfl,⟨fun h=>⟨by simp_all,by simp_all,by simp_all,by simp_all,by simp_all,by simp_all,by simpa using h⟩,fun h=>by simpa using h.day⟩,hs.out⟩
  ·refine .gFs 7 12 true rfl rfl rfl ?_
   refine .z zpF (.z zm ?_)
   refine .gFs 3 21 true rfl rfl rfl ?_
   refine .z zpF (.z zm ?_)
   refine .gFs 6 26 true rfl rfl rfl ?_
   refine .z zpF (.z zm ?_)
   refine .gFs 3 34 true rfl rfl rfl ?_
   refine .z zpF (.z zm ?_)
   refine .gFs 3 39 true rfl rfl rfl ?_
   refine .z zpF (.z zg (.nil ?_))
   refine .ret (Fin.bI jc rfl ?_)
   first
   |exact ⟨false,rfl,⟨fun h=>(by cases h),fun h=>(by obtain ⟨g1,g2,g3,g4,g5,g6,g7⟩:=h;simp_all;done)⟩,hs.out⟩
   |exact ⟨_,rfl,⟨fun h=>⟨by simp_all,by simp_all,by simp_all,by simp_all,by simp_all,by simp_all,by simpa using h⟩,fun h=>by simpa using h.day⟩,hs.out⟩
 ·refine .gFs 7 3 true rfl rfl rfl ?_
  refine .z zpF (.z zm ?_)
  refine .gFs 7 12 true rfl rfl rfl ?_
  refine .z zpF (.z zm ?_)
  refine .gFs 3 21 true rfl rfl rfl ?_
  refine .z zpF (.z zm ?_)
  refine .gFs 6 26 true rfl rfl rfl ?_
  refine .z zpF (.z zm ?_)
  refine .gFs 3 34 true rfl rfl rfl ?_
  refine .z zpF (.z zm ?_)
  refine .gFs 3 39 true rfl rfl rfl ?_
  refine .z zpF (.z zg (.nil ?_))
  refine .ret (Fin.bI jc rfl ?_)
  first
  |exact ⟨false,rfl,⟨fun h=>(by cases h),fun h=>(by obtain ⟨g1,g2,g3,g4,g5,g6,g7⟩:=h;simp_all;done)⟩,hs.out⟩
  |exact ⟨_,rfl,⟨fun h=>⟨by simp_all,by simp_all,by simp_all,by simp_all,by simp_all,by simp_all,by simpa using h⟩,fun h=>by simpa using h.day⟩,hs.out⟩
theorem me{H:bn}{w:World}{σ:List Ent}{c:Cmp}(hs:St H w σ):
  Cl Tryz.prog 110 [.agg #[I c.src,I c.tape,I c.fr,I c.to,I c.lo,I c.hi]] w fun v w'=>∃b:Bool,v= .bool b∧(b=true↔pa c)∧St H w' σ:=by
 refine Cl.of Tryz.func110 rfl Tryz.ntmps110 (by simp) (aj (k:=0) rfl (bh)) ?_
 refine .ai ?_
 refine .o (.box hs rfl rfl ?_);intro b1 w hs
 refine .z zg (.nil (.ai (.z (zfa fW) (.y hs (zld af) ?_))))
 refine .o (.call eR rfl (de hs) ?_);rintro _ w ⟨rfl,hs⟩
 refine .z zm ?_
 refine .bif (t':=6) rfl (fun hb6=>?_) (fun hb6=>?_)
 ·refine .gT rfl rfl ?_
  refine .z (zfa ic) ?_
  refine .gT rfl rfl ?_
  refine .y hs (zld af) ?_
  refine .gT rfl rfl ?_
  refine .o (.call eR rfl (de hs) ?_);rintro _ w ⟨rfl,hs⟩
  refine .z zpT (.z zm ?_)
  refine .bif (t':=11) rfl (fun hb11=>?_) (fun hb11=>?_)
  ·refine .gT rfl rfl ?_
   refine .z (zfa fc) ?_
   refine .gT rfl rfl ?_
   refine .y hs (zld af) ?_
   refine .gT rfl rfl ?_
   refine .z wI (.z zpT (.z zm ?_))
   refine .iE (t':=16) rfl (fun hb16=>?_) (fun hb16=>?_)
   ·refine .gT rfl rfl ?_
    refine .z (zfa fc) ?_
    refine .gT rfl rfl ?_
    refine .y hs (zld af) ?_
    refine .gT rfl rfl ?_
    refine .z (zfa eG) ?_
    refine .gT rfl rfl ?_
    refine .y hs (zld af) ?_
    refine .gT rfl rfl ?_
    refine .z wH (.z zpT (.z zm ?_))
    refine .iE (t':=23) rfl (fun hb23=>?_) (fun hb23=>?_)
    ·refine .gT rfl rfl ?_
     refine .z (zfa eG) ?_
     refine .gT rfl rfl ?_
     refine .y hs (zld af) ?_
     refine .gT rfl rfl ?_
     refine .z wH (.z zpT (.z zm ?_))
     refine .iE (t':=28) rfl (fun hb28=>?_) (fun hb28=>?_)
     ·refine .gT rfl rfl ?_
      refine .z (zfa eF) ?_
      refine .gT rfl rfl ?_
      refine .y hs (zld af) ?_
      refine .gT rfl rfl ?_
      refine .z wI (.z zpT (.z zm ?_))
      refine .iE (t':=33) rfl (fun hb33=>?_) (fun hb33=>?_)
      ·refine .gT rfl rfl ?_
       refine .z (zfa eF) ?_
       refine .gT rfl rfl ?_
       refine .y hs (zld af) ?_
       refine .gT rfl rfl ?_
       refine .z (zfa eE) ?_
       refine .gT rfl rfl ?_
       refine .y hs (zld af) ?_
       refine .gT rfl rfl ?_
       refine .z wH (.z zpT (.z zm ?_))
       refine .iE (t':=40) rfl (fun hb40=>?_) (fun hb40=>?_)
       ·refine .gT rfl rfl ?_
        refine .z (zfa eE) ?_
        refine .gT rfl rfl ?_
        refine .y hs (zld af) ?_
        refine .gT rfl rfl ?_
        refine .z wH (.z zpT (.z zg (.nil ?_)))
        refine .ret (Fin.bI gK rfl ?_)
        first
        |exact ⟨false,rfl,⟨fun h=>(by cases h),fun h=>(by obtain ⟨g1,g2,g3,g4,g5,g6⟩:=h;simp_all;omega)⟩,hs.out⟩
        |exact ⟨false,rfl,⟨fun h=>(by cases h),fun h=>(by obtain ⟨g1,g2,g3,g4,g5,g6⟩:=h;simp_all;done)⟩,hs.out⟩
        |exact ⟨_,rfl,⟨fun h=>⟨by simp_all,by simp_all,⟨by omega,by omega⟩,by omega,⟨by omega,by omega⟩,of_decide_eq_true h⟩,fun h=>decide_eq_true h.hi⟩,hs.out⟩
       ·refine .gFs 3 37 true rfl rfl rfl ?_
        refine .z zpF (.z zg (.nil ?_))
        refine .ret (Fin.bI gK rfl ?_)
        first
        |exact ⟨false,rfl,⟨fun h=>(by cases h),fun h=>(by obtain ⟨g1,g2,g3,g4,g5,g6⟩:=h;simp_all;omega)⟩,hs.out⟩
        |exact ⟨false,rfl,⟨fun h=>(by cases h),fun h=>(by obtain ⟨g1,g2,g3,g4,g5,g6⟩:=h;simp_all;done)⟩,hs.out⟩
        |exact ⟨_,rfl,⟨fun h=>⟨by simp_all,by simp_all,⟨by omega,by omega⟩,by omega,⟨by omega,by omega⟩,of_decide_eq_true h⟩,fun h=>decide_eq_true h.hi⟩,hs.out⟩
      ·refine .gFs 5 30 true rfl rfl rfl ?_
       refine .z zpF (.z zm ?_)
       refine .gFs 3 37 true rfl rfl rfl ?_
       refine .z zpF (.z zg (.nil ?_))
       refine .ret (Fin.bI gK rfl ?_)
       first
       |exact ⟨false,rfl,⟨fun h=>(by cases h),fun h=>(by obtain ⟨g1,g2,g3,g4,g5,g6⟩:=h;simp_all;omega)⟩,hs.out⟩
       |exact ⟨false,rfl,⟨fun h=>(by cases h),fun h=>(by obtain ⟨g1,g2,g3,g4,g5,g6⟩:=h;simp_all;done)⟩,hs.out⟩
       |exact ⟨_,rfl,⟨fun h=>⟨by simp_all,by simp_all,⟨by omega,by omega⟩,by omega,⟨by omega,by omega⟩,of_decide_eq_true h⟩,fun h=>decide_eq_true h.hi⟩,hs.out⟩
     ·refine .gFs 3 25 true rfl rfl rfl ?_
      refine .z zpF (.z zm ?_)
      refine .gFs 5 30 true rfl rfl rfl ?_
      refine .z zpF (.z zm ?_)
      refine .gFs 3 37 true rfl rfl rfl ?_
      refine .z zpF (.z zg (.nil ?_))
      refine .ret (Fin.bI gK rfl ?_)
      first
      |exact ⟨false,rfl,⟨fun h=>(by cases h),fun h=>(by obtain ⟨g1,g2,g3,g4,g5,g6⟩:=h;simp_all;omega)⟩,hs.out⟩
      |exact ⟨false,rfl,⟨fun h=>(by cases h),fun h=>(by obtain ⟨g1,g2,g3,g4,g5,g6⟩:=h;simp_all;done)⟩,hs.out⟩
      |exact ⟨_,rfl,⟨fun h=>⟨by simp_all,by simp_all,⟨by omega,by omega⟩,by omega,⟨by omega,by omega⟩,of_decide_eq_true h⟩,fun h=>decide_eq_true h.hi⟩,hs.out⟩
    ·refine .gFs 3 20 true rfl rfl rfl ?_
     refine .z zpF (.z zm ?_)
     refine .gFs 3 25 true rfl rfl rfl ?_
     refine .z zpF (.z zm ?_)
     refine .gFs 5 30 true rfl rfl rfl ?_
     refine .z zpF (.z zm ?_)
     refine .gFs 3 37 true rfl rfl rfl ?_
     refine .z zpF (.z zg (.nil ?_))
     refine .ret (Fin.bI gK rfl ?_)
     first
     |exact ⟨false,rfl,⟨fun h=>(by cases h),fun h=>(by obtain ⟨g1,g2,g3,g4,g5,g6⟩:=h;simp_all;omega)⟩,hs.out⟩
     |exact ⟨false,rfl,⟨fun h=>(by cases h),fun h=>(by obtain ⟨g1,g2,g3,g4,g5,g6⟩:=h;simp_all;done)⟩,hs.out⟩
     |exact ⟨_,rfl,⟨fun h=>⟨by simp_all,by simp_all,⟨by omega,by omega⟩,by omega,⟨by omega,by omega⟩,of_decide_eq_true h⟩,fun h=>decide_eq_true h.hi⟩,hs.out⟩
   ·refine .gFs 5 13 true rfl rfl rfl ?_
    refine .z zpF (.z zm ?_)
    refine .gFs 3 20 true rfl rfl rfl ?_
    refine .z zpF (.z zm ?_)
    refine .gFs 3 25 true rfl rfl rfl ?_
    refine .z zpF (.z zm ?_)
    refine .gFs 5 30 true rfl rfl rfl ?_
    refine .z zpF (.z zm ?_)
    refine .gFs 3 37 true rfl rfl rfl ?_
    refine .z zpF (.z zg (.nil ?_))
    refine .ret (Fin.bI gK rfl ?_)
    first
    |exact ⟨false,rfl,⟨fun h=>(by cases h),fun h=>(by obtain ⟨g1,g2,g3,g4,g5,g6⟩:=h;simp_all;omega)⟩,hs.out⟩
    |exact ⟨false,rfl,⟨fun h=>(by cases h),fun h=>(by obtain ⟨g1,g2,g3,g4,g5,g6⟩:=h;simp_all;done)⟩,hs.out⟩
    |exact ⟨_,rfl,⟨fun h=>⟨by simp_all,by simp_all,⟨by omega,by omega⟩,by omega,⟨by omega,by omega⟩,of_decide_eq_true h⟩,fun h=>decide_eq_true h.hi⟩,hs.out⟩
  ·refine .gFs 3 8 true rfl rfl rfl ?_
   refine .z zpF (.z zm ?_)
   refine .gFs 5 13 true rfl rfl rfl ?_
   refine .z zpF (.z zm ?_)
   refine .gFs 3 20 true rfl rfl rfl ?_
   refine .z zpF (.z zm ?_)
   refine .gFs 3 25 true rfl rfl rfl ?_
   refine .z zpF (.z zm ?_)
   refine .gFs 5 30 true rfl rfl rfl ?_
   refine .z zpF (.z zm ?_)
   refine .gFs 3 37 true rfl rfl rfl ?_
   refine .z zpF (.z zg (.nil ?_))
   refine .ret (Fin.bI gK rfl ?_)
   first
   |exact ⟨false,rfl,⟨fun h=>(by cases h),fun h=>(by obtain ⟨g1,g2,g3,g4,g5,g6⟩:=h;simp_all;omega)⟩,hs.out⟩
   |exact ⟨false,rfl,⟨fun h=>(by cases h),fun h=>(by obtain ⟨g1,g2,g3,g4,g5,g6⟩:=h;simp_all;done)⟩,hs.out⟩
   |exact ⟨_,rfl,⟨fun h=>⟨by simp_all,by simp_all,⟨by omega,by omega⟩,by omega,⟨by omega,by omega⟩,of_decide_eq_true h⟩,fun h=>decide_eq_true h.hi⟩,hs.out⟩
 ·refine .gFs 3 3 true rfl rfl rfl ?_
  refine .z zpF (.z zm ?_)
  refine .gFs 3 8 true rfl rfl rfl ?_
  refine .z zpF (.z zm ?_)
  refine .gFs 5 13 true rfl rfl rfl ?_
  refine .z zpF (.z zm ?_)
  refine .gFs 3 20 true rfl rfl rfl ?_
  refine .z zpF (.z zm ?_)
  refine .gFs 3 25 true rfl rfl rfl ?_
  refine .z zpF (.z zm ?_)
  refine .gFs 5 30 true rfl rfl rfl ?_
  refine .z zpF (.z zm ?_)
  refine .gFs 3 37 true rfl rfl rfl ?_
  refine .z zpF (.z zg (.nil ?_))
  refine .ret (Fin.bI gK rfl ?_)
  first
  |exact ⟨false,rfl,⟨fun h=>(by cases h),fun h=>(by obtain ⟨g1,g2,g3,g4,g5,g6⟩:=h;simp_all;omega)⟩,hs.out⟩
  |exact ⟨false,rfl,⟨fun h=>(by cases h),fun h=>(by obtain ⟨g1,g2,g3,g4,g5,g6⟩:=h;simp_all;done)⟩,hs.out⟩
  |exact ⟨_,rfl,⟨fun h=>⟨by simp_all,by simp_all,⟨by omega,by omega⟩,by omega,⟨by omega,by omega⟩,of_decide_eq_true h⟩,fun h=>decide_eq_true h.hi⟩,hs.out⟩
theorem dT{H:bn}{w:World}{σ:List Ent}{s:Spc}{vst vwa:Value}(hs:St H w σ)(h1:RI H vst s.st)(h2:RI H vwa s.wa)(hb:s.st.length≤1000∧s.wa.length≤1000):
  Cl Tryz.prog 97 [.agg #[I s.id,I s.src,vst,vwa,I s.al,I s.up]] w fun v w'=>v=I (s.many:Int)∧St H w' σ:=by
 obtain ⟨ast,cst,rfl⟩:=RI.shape h1
 obtain ⟨awa,cwa,rfl⟩:=RI.shape h2
 have hm:=kS (a:=(s.st.length:Int)) (b:=(s.wa.length:Int)) (A:=1000) (B:=1000) (by omega) (by omega)
 refine Cl.of Tryz.func97 rfl Tryz.ntmps97 (by simp) (aj (k:=0) rfl (bh)) ?_
 refine .ai ?_
 refine .o (.box hs rfl rfl ?_);intro b1 w hs
 refine .z zg (.nil (.ai (.z (zfa bA) (.y hs (zld ak) (.z (cM aa) (.z (zfa bg) (.y hs (zld ak) (.z (cM aa) (.z j7 ?_)))))))))
 refine .z zg (.nil ?_)
 refine .ret (Fin.bI Tryz.results97 rfl ?_)
 exact ⟨by unfold Spc.many;rw [Int.natCast_mul],hs.out⟩
theorem da{H:bn}{w:World}{σ:List Ent}{s:Spc}{vst vwa:Value}{a b:Int}(hs:St H w σ)(h2:RI H vwa s.wa)(hb:s.wa.length≤1000)(ha: -1000≤a∧a≤1000)(hb': -1000≤b∧b≤1000):
  Cl Tryz.prog 121 [.agg #[I s.id,I s.src,vst,vwa,I s.al,I s.up],I a,I b] w fun v w'=>v=I (1+a*s.wa.length+b)∧St H w' σ:=by
 obtain ⟨awa,cwa,rfl⟩:=RI.shape h2
 have hm:=kS (a:=a) (b:=(s.wa.length:Int)) (A:=1000) (B:=1000) (by omega) (by omega)
 refine Cl.of Tryz.func121 rfl Tryz.ntmps121 (by simp) (aj (k:=0) rfl (aj (k:=1) rfl (aj (k:=2) rfl (bh)))) ?_
 refine .ai ?_
 refine .o (.box hs rfl rfl ?_);intro b3 w hs
 refine .z zg (.nil (.ai (.z zm (.z (zfa bg) (.y hs (zld ak) (.z (cM aa) (.z j7 (.z cA (.z zm ?_)))))))))
 refine .z cA (.z zg (.nil ?_))
 refine .ret (Fin.bI Tryz.results121 rfl ?_)
 exact ⟨rfl,hs.out⟩
theorem lI{H:bn}{w:World}{σ:List Ent}{a b:Int}(hs:St H w σ)(ha:0≤a∧a≤100000)(hb:0≤b∧b≤100000):
  Cl Tryz.prog 193 [I a,I b] w fun v w'=>v=I (jS a b)∧St H w' σ:=by
 have hm:=kS (a:=a) (b:=b) (A:=100000) (B:=100000) (by omega) (by omega)
 have h0:=Int.mul_nonneg ha.1 hb.1
 have hq0:0≤(a*b+999).tdiv 1000:=Int.tdiv_nonneg (by omega) (by omega)
 have hq1:(a*b+999).tdiv 1000≤a*b+999:=by rw [Int.tdiv_eq_ediv_of_nonneg (by omega)];omega
 refine Cl.of Tryz.func193 rfl Tryz.ntmps193 (by simp) (aj (k:=0) rfl (aj (k:=1) rfl (bh))) ?_
 refine .ai (.z zg (.nil (.ai (.z zm (.z zm (.z j7 (.z cA ?_)))))))
 refine .q hs (uF rfl rfl (by omega) (by omega)) ?_
 refine .z Ad (.z zg (.nil ?_))
 refine .ret (Fin.bI Tryz.results193 rfl ?_)
 exact ⟨rfl,hs⟩
theorem kl{H:bn}{w:World}{σ:List Ent}{a b m s:Int}(hs:St H w σ):
  Cl Tryz.prog 119 [I a,I b,I m,I s] w fun v w'=>∃b0,v= .slice (some ⟨b0,0,none⟩) 2 2∧St H w' (.blk b0 (fQ (two a b m m s))::σ):=by
 refine Cl.of Tryz.func119 rfl Tryz.ntmps119 (by simp) (aj (k:=0) rfl (aj (k:=1) rfl (aj (k:=2) rfl (aj (k:=3) rfl (bh))))) ?_
 refine .ai (.z zg (.nil (.ai (.z zm (.z zm (.z zm (.z zm (.z (zbd [_,_,_,_] ek) (.z zm ?_)))))))))
 refine .z zm (.z zm (.z zm (.z (zbd [_,_,_,_] ek) ?_)))
 refine .o (.buildSlice (cells:=fQ (two a b m m s)) hs fk rfl (by kernel_rfl) ?_);intro b19 w hs
 refine .z zg (.nil ?_)
 refine .ret (Fin.bI Tryz.results119 rfl ?_)
 exact ⟨b19,rfl,hs⟩
theorem sL{H:bn}{w:World}{σ:List Ent}{c:Cmp}{t:TD}{f:Int}(hs:St H w σ)(hlo: -1000000≤c.lo∧c.lo≤1000000):
  Cl Tryz.prog 194 [.agg #[I c.src,I c.tape,I c.fr,I c.to,I c.lo,I c.hi],.agg #[I t.tape,I t.day],I f] w fun v w'=>∃en,cu 4 v (fQ (k8 c t f)) en∧St H w' (en::σ):=by
 refine Cl.of Tryz.func194 rfl Tryz.ntmps194 (by simp) (aj (k:=0) rfl (aj (k:=1) rfl (aj (k:=2) rfl (bh)))) ?_
 refine .ai ?_
 refine .o (.box hs rfl rfl ?_);intro b3 w hs
 refine .o (.box hs rfl rfl ?_);intro b4 w hs
 refine .z zg (.nil (.seq (.ai (.z (zfa ic) (.y hs (zld af) (.z (zfa mA) (.y hs (zld af) (.z iA (.z zm ?_)))))))))
 refine .yu (t':=12) rfl (fun hb12=>?_) (fun hb12=>?_)
 ·refine .gFs 5 5 false rfl rfl rfl ?_
  refine .z zpT (.z zm ?_)
  refine .gFs 5 12 false rfl rfl rfl ?_
  refine .z zpT (.nil ?_)
  refine (.fj rfl (by first|rfl|exact decide_eq_true (by assumption)) ?_)
  refine .ai (.z zg (.nil ?_))
  refine .ret (rT (Fin.bI tN rfl ?_))
  exact ⟨.nul,by unfold k8;rw [if_neg (by omega)];exact .nil 4 none,hs.tail.tail.nul⟩
 ·refine .gT rfl rfl ?_
  refine .z (zfa jT) ?_
  refine .gT rfl rfl ?_
  refine .y hs (zld af) ?_
  refine .gT rfl rfl ?_
  refine .z (zfa fc) ?_
  refine .gT rfl rfl ?_
  refine .y hs (zld af) ?_
  refine .gT rfl rfl ?_
  refine .z fN (.z zpF (.z zm ?_))
  refine .iE (t':=19) rfl (fun hb19=>?_) (fun hb19=>?_)
  ·refine .gFs 5 12 false rfl rfl rfl ?_
   refine .z zpT (.nil ?_)
   refine (.fj rfl (by first|rfl|exact decide_eq_true (by assumption)) ?_)
   refine .ai (.z zg (.nil ?_))
   refine .ret (rT (Fin.bI tN rfl ?_))
   exact ⟨.nul,by unfold k8;rw [if_neg (by omega)];exact .nil 4 none,hs.tail.tail.nul⟩
  ·refine .gT rfl rfl ?_
   refine .z (zfa jT) ?_
   refine .gT rfl rfl ?_
   refine .y hs (zld af) ?_
   refine .gT rfl rfl ?_
   refine .z (zfa eG) ?_
   refine .gT rfl rfl ?_
   refine .y hs (zld af) ?_
   refine .gT rfl rfl ?_
   refine .z lk (.z zpF (.nil ?_))
   refine (.bJ rfl (fun hc25=>?_) (fun hc25=>?_))
   ·refine .ai (.z zg (.nil ?_))
    refine .ret (rT (Fin.bI tN rfl ?_))
    exact ⟨.nul,by unfold k8;rw [if_neg (by omega)];exact .nil 4 none,hs.tail.tail.nul⟩
   ·refine .skip ?_
    refine nT ?_
    refine .ai (.z zm (.z (zfa eF) (.y hs (zld af) (.z xI (.z (zfa fW) (.y hs (zld af) (.z (zbd [_,_,_,_] ek) (.z zm (.z (zfa eE) ?_)))))))))
    refine .y hs (zld af) (.z (zfa fW) (.y hs (zld af) (.z (zbd [_,_,_,_] ek) ?_)))
    refine .o (.buildSlice (cells:=fQ (two 0 f (-c.lo) c.hi c.src)) hs fk rfl (by kernel_rfl) ?_);intro b39 w hs
    refine .z zg (.nil ?_)
    refine .ret (Fin.bI tN rfl ?_)
    exact ⟨_,by unfold k8;rw [if_pos (by omega)];exact .full (by simp [two,dp]),hs.sub (by repeat (first|exact Sub.refl _|constructor|apply Sub.weaken))⟩
theorem ia{H:bn}{w:World}{σ:List Ent}{v:Value}{xs:List TD}{t:TD}(hs:St H w σ)(hr:RTd H v xs)(hl:xs.length≤1000000):
  Cl Tryz.prog 93 [v,.agg #[I t.tape,I t.day]] w fun u w'=>u=I (gS xs t)∧St H w' σ:=by
 obtain ⟨a,c,rfl⟩:=RTd.shape hr
 refine Cl.of Tryz.func93 rfl Tryz.ntmps93 (by simp) (aj (k:=0) rfl (aj (k:=1) rfl (bh))) ?_
 refine .ai ?_
 refine .o (.box hs rfl rfl ?_);intro b3 w hs
 refine .z zg (.nil (.seq (.ai (.z zg (.nil (.block ?_))))))
 refine .loop (fun k:Nat=>⟨19,[],[(5,I (k:Int)),(3,.pointer (some ⟨b3,0,none⟩)),(0,.slice a xs.length c)]⟩)
  (fun k w=>k≤xs.length∧(∀j<k,∀y,xs[j]? =some y→¬y=t)∧St H w (.blk b3 [I t.tape,I t.day]::σ)) (fun k=>xs.length - k) 0 (.cq rfl (by simp) (by repeat (first|exact .nil rfl rfl|refine .cons rfl ?_)))
  ⟨Nat.zero_le _,fun j hj=>by omega,hs⟩ ?_
 rintro k w ⟨hk,hno,hs⟩
 refine .seq (.ai (.z zm (.z zm (.z (cM aF) (.z fN (.nil ?_))))))
 refine (.bJ rfl (fun hc9=>?_) (fun hc9=>?_))
 ·refine .skip ?_
  refine nT ?_
  refine .seq (.block ?_)
  refine .seq (.draw mix rfl hs ?_);intro w hs
  refine .z 0 rfl zm ?_;refine .z 1 rfl zm ?_
  obtain ⟨x,hx⟩:=nth (l:=xs) (k:=k) (by omega)
  refine .ixX (enc:=TD.c) (i:=2) hs rfl (by kernel_rfl) .none hr rfl rfl aF aP hx (by first|rfl|assumption|omega) ?_;intro b14 o14 hc14
  refine .r (i:=3) hs rfl (by kernel_rfl) .none (cj (vs:=x.c) rfl bV aP hc14) ?_
  refine .ys 4 rfl hs [_,_] bV aP ?_
  refine .p (i:=5) rfl (by kernel_rfl) .none (iN pn po ez (fun f hf=>by
   simp only [List.mem_cons,List.not_mem_nil,or_false] at hf
   rcases hf with rfl|rfl<;>exact ⟨by decide,aK,af⟩) rfl rfl) ?_
  refine .done (by kernel_rfl) hs ?_
  refine (.cond rfl (fun hc17=>?_) (fun hc17=>?_))
  ·refine .ai (.z zm (.z zg (.nil ?_)))
   refine .ret (rB (rT (rT (rB (rT (Fin.bI wk rfl ?_))))))
   have e:x=t:=Aq.1 (of_decide_eq_true hc17)
   subst e
   exact ⟨by rw [mY hx fun j hj h=>hno j hj _ h rfl],hs.tail⟩
  ·refine .skip ?_
   refine nB (nT ?_)
   refine .region (.z zm (.z cA (.z zg (.nil ?_))))
   refine nT ?_
   exact ⟨k+1,.cq rfl (by simp) (by repeat (first|exact .nil rfl rfl|refine .cons rfl ?_)),⟨by omega,eK hno hx (fun e=>by subst e;simp at hc17),hs⟩,by omega⟩
 ·refine .exit ?_
  refine xT (xT (xB (nT ?_)))
  refine .ai (.z zg (.nil ?_))
  refine .ret (Fin.bI wk rfl ?_)
  obtain rfl:k=xs.length:=by omega
  exact ⟨by rw [sb hno],hs.tail⟩
theorem m8{H:bn}{w:World}{σ:List Ent}{v:Value}{en:Ent}{xs:List TD}{t:TD}(hs:St H w (en::σ))(hO:cu 2 v (tdc xs).flatten en)(hl:xs.length≤1000000):
  Cl Tryz.prog 93 [v,.agg #[I t.tape,I t.day]] w fun u w'=>u=I (gS xs t)∧St H w' (en::σ):=by
 obtain ⟨a,c,rfl⟩:=hO.kj (k9 xs) (by omega)
 rw [dk] at hO ⊢
 refine Cl.of Tryz.func93 rfl Tryz.ntmps93 (by simp) (aj (k:=0) rfl (aj (k:=1) rfl (bh))) ?_
 refine .ai ?_
 refine .o (.box hs rfl rfl ?_);intro b3 w hs
 refine .z zg (.nil (.seq (.ai (.z zg (.nil (.block ?_))))))
 refine .loop (fun k:Nat=>⟨19,[],[(5,I (k:Int)),(3,.pointer (some ⟨b3,0,none⟩)),(0,.slice a xs.length c)]⟩)
  (fun k w=>k≤xs.length∧(∀j<k,∀y,xs[j]? =some y→¬y=t)∧St H w (.blk b3 [I t.tape,I t.day]::en::σ)) (fun k=>xs.length - k) 0 (.cq rfl (by simp) (by repeat (first|exact .nil rfl rfl|refine .cons rfl ?_)))
  ⟨Nat.zero_le _,fun j hj=>by omega,hs⟩ ?_
 rintro k w ⟨hk,hno,hs⟩
 refine .seq (.ai (.z zm (.z zm (.z (cM aF) (.z fN (.nil ?_))))))
 refine (.bJ rfl (fun hc9=>?_) (fun hc9=>?_))
 ·refine .skip ?_
  refine nT ?_
  refine .seq (.block ?_)
  refine .seq (.draw mix rfl hs ?_);intro w hs
  refine .z 0 rfl zm ?_;refine .z 1 rfl zm ?_
  obtain ⟨x,hx⟩:=nth (l:=xs) (k:=k) (by omega)
  obtain ⟨b,c',sp,hv,rfl,_⟩:=hO.Eo (k9 xs) (by omega) (by rw [dk];omega)
  rw [dk] at hv
  cases hv
  refine .z 2 rfl (nR aF aP) ?_
  refine .yd (i:=3) (vs:=x.c) hs rfl (by kernel_rfl) .none rfl bV aP ?_ (hv:=uI (k9 xs) (xO hx) sp)
  refine .ys 4 rfl hs [_,_] bV aP ?_
  refine .p (i:=5) rfl (by kernel_rfl) .none (iN pn po ez (fun f hf=>by
   simp only [List.mem_cons,List.not_mem_nil,or_false] at hf
   rcases hf with rfl|rfl<;>exact ⟨by decide,aK,af⟩) rfl rfl) ?_
  refine .done (by kernel_rfl) hs ?_
  refine (.cond rfl (fun hc17=>?_) (fun hc17=>?_))
  ·refine .ai (.z zm (.z zg (.nil ?_)))
   refine .ret (rB (rT (rT (rB (rT (Fin.bI wk rfl ?_))))))
   have e:x=t:=Aq.1 (of_decide_eq_true hc17)
   subst e
   exact ⟨by rw [mY hx fun j hj h=>hno j hj _ h rfl],hs.tail⟩
  ·refine .skip ?_
   refine nB (nT ?_)
   refine .region (.z zm (.z cA (.z zg (.nil ?_))))
   refine nT ?_
   exact ⟨k+1,.cq rfl (by simp) (by repeat (first|exact .nil rfl rfl|refine .cons rfl ?_)),⟨by omega,eK hno hx (fun e=>by subst e;simp at hc17),hs⟩,by omega⟩
 ·refine .exit ?_
  refine xT (xT (xB (nT ?_)))
  refine .ai (.z zg (.nil ?_))
  refine .ret (Fin.bI wk rfl ?_)
  obtain rfl:k=xs.length:=by omega
  exact ⟨by rw [sb hno],hs.tail⟩
set_option maxHeartbeats 1000000 in
theorem eA{H:bn}{w:World}{σ:List Ent}{vr:Value}{rs:List Rdg}(hs:St H w σ)(hr:RRd H vr rs)(hl:rs.length≤1000000):
  Cl Tryz.prog 94 [vr] w fun u w'=>∃H1,HLe H H1∧RTd H1 u (aZ rs)∧St H1 w' σ:=by
 obtain ⟨ar,cr,rfl⟩:=RRd.shape hr
 refine Cl.of Tryz.func94 rfl Tryz.ntmps94 (by simp) (aj (k:=0) rfl (bh)) ?_
 refine .ai (.z zg (.nil (.ai (.z zg (.nil (.seq (.ai (.z zg (.nil ?_)))))))))
 refine .block ?_
 refine .loop (fun p:Nat×Value=>⟨32,[],[(4,I (p.1:Int)),(3,p.2),(0,.slice ar rs.length cr)]⟩)
  (fun p w=>p.1≤rs.length∧∃en,cu 2 p.2 (tdc (aZ (rs.take p.1))).flatten en∧St H w (en::σ)) (fun p=>rs.length - p.1) (0,.slice none 0 0) (by repeat (first|exact .nil rfl rfl|refine .cons rfl ?_))
  ⟨Nat.zero_le _,_,.nil 2 none,hs.nul⟩ ?_
 rintro ⟨k,vo⟩ w ⟨hk,en,hO,hs⟩
 dsimp only at hk hO ⊢
 have htl:=ki rs k (by omega)
 obtain ⟨ao,co,rfl⟩:=hO.kj (k9 _) (by omega)
 rw [dk] at hO ⊢
 refine .seq (.ai (.z zm (.z zm (.z (cM au) (.z fN (.nil ?_))))))
 refine (.bJ rfl (fun hc9=>?_) (fun hc9=>?_))
 ·refine .skip ?_
  refine nT ?_
  refine .seq (.block ?_)
  refine .seq (.draw mix rfl hs ?_);intro w hs
  refine .z 0 rfl zm ?_;refine .z 1 rfl zm ?_
  obtain ⟨r,hx⟩:=nth (l:=rs) (k:=k) (by omega)
  have htk:=jz hx
  refine .ixX (enc:=Rdg.c) (i:=2) hs rfl (by kernel_rfl) .none hr rfl rfl au aE hx (by first|rfl|assumption|omega) ?_;intro b14 o14 hc14
  have d14:cellAt H b14 (o14+5)=some (I r.tape):=hc14 5 _ rfl
  refine .z 3 rfl (zfa dW) ?_;refine .y 4 rfl hs af ?_;refine .z 5 rfl zm ?_;refine .z 6 rfl zm ?_
  refine .ixX (enc:=Rdg.c) (i:=7) hs rfl (by kernel_rfl) .none hr rfl rfl au aE hx (by first|rfl|assumption|omega) ?_;intro b19 o19 hc19
  have d19:cellAt H b19 (o19+6)=some (I r.day):=hc19 6 _ rfl
  refine .z 8 rfl (zfa dV) ?_;refine .y 9 rfl hs af ?_;refine .z 10 rfl (zbd [_,_] fJ) ?_
  refine .e1 (i:=11) (by kernel_rfl) rfl rfl .none hs ?_
  refine .alloc hs ig rfl ?_;intro b5 w hs
  refine .go ?_
  refine .e1 (i:=12) (by kernel_rfl) rfl rfl .none hs ?_
  refine .aS (vs:=[_,_]) hs rfl rfl aP ?_;intro w hs
  refine .go ?_
  refine .done (by kernel_rfl) hs ?_
  refine .ai (.z zm (.y hs (zls [_,_] bV aP) ?_))
  refine .o (.call rp rfl (m8 (t:=r.td) (hs.sub (by repeat (first|exact Sub.refl _|constructor|apply Sub.weaken)):St H w (en:: .blk b5 [I r.tape,I r.day]::σ)) hO (by omega)) ?_);rintro _ w ⟨rfl,hs⟩
  have hnn:=jy (l:=aZ (rs.take k)) (t:=r.td)
  refine .z fN (.nil ?_)
  refine (.bJ rfl (fun hc26=>?_) (fun hc26=>?_))
  ·refine .region (.z zm (.y hs (zls [_,_] bV aP) ?_))
   refine .o (.buildSlice (cells:=[_,_]) hs fD rfl rfl ?_);intro b29 w hs
   refine .o (.append (ys:=r.td.c) hs dJ rfl rfl hO (.own .here rfl rfl) (by simp [TD.c,Value.oneCell']) (fun l h=>by rw [bZ _ (k9 _),dk] at h;omega) ?_);intro v30 en30 w hO2 hs
   refine .z zg (.nil ?_)
   refine nB (nT ?_)
   refine .region (.z zm (.z cA (.z zg (.nil ?_))))
   refine nT ?_
   have hn:r.td∉aZ (rs.take k):=fun hm=>by have:=hnn.2 hm;omega
   rw [←sa,show aZ (rs.take k)++[r.td]=aZ (rs.take (k+1)) by rw [htk];unfold qg;rw [if_neg hn]] at hO2
   exact ⟨(k+1,v30),.cq rfl (by simp) (by repeat (first|exact .nil rfl rfl|refine .cons rfl ?_)),⟨by dsimp only;omega,_,hO2,hs.sub (by repeat (first|exact Sub.refl _|constructor|apply Sub.weaken))⟩,by dsimp only;omega⟩
  ·refine .skip ?_
   refine nB (nT ?_)
   refine .region (.z zm (.z cA (.z zg (.nil ?_))))
   refine nT ?_
   have hm:r.td∈aZ (rs.take k):=hnn.1 (by omega)
   exact ⟨(k+1,_),.cq rfl (by simp) (by repeat (first|exact .nil rfl rfl|refine .cons rfl ?_)),⟨by dsimp only;omega,en,by dsimp only;rw [htk];unfold qg;rw [if_pos hm];exact hO,hs.sub (by repeat (first|exact Sub.refl _|constructor|apply Sub.weaken))⟩,by dsimp only;omega⟩
 ·refine .exit ?_
  refine xT (xT (xB (nT ?_)))
  refine .ai (.z zm (.z zg (.nil ?_)))
  refine .ret (Fin.bI Tryz.results94 rfl ?_)
  obtain rfl:k=rs.length:=by omega
  rw [List.take_length] at hO
  have htl:=cF rs
  obtain ⟨H2,hle2,hR,hs⟩:=cu.cP (m:=2) (cs:=tdc (aZ rs)) hO (k9 _) (by omega) (by rw [dk];omega) hs .here
  rw [List.take_length]
  exact ⟨H2,hle2,hR,hs⟩
end Go.Proofs.YtddaejgfjlneoaaGreat
