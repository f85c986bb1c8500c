/- Part of the proof of WholeStep. -/
import Derived.Test.YtllbdpdnpaocnaaGreatDoorZAN
namespace Go.Proofs.YtllbdpdnpaocnaaGreatDoor
set_option linter.unusedSimpArgs false
set_option linter.unusedVariables false
set_option linter.constructorNameAsVariable false
open Go.RowKit Go.Maps
theorem tV {v:Value} {ps:List MemPlace} (h:fnR v=some (.lit (.bool false),ps)):v=.nilFunc:=by
 by_cases hp:∃f:Nat,v=.func (.func f) #[] #[]
 ·obtain ⟨f,rfl⟩:=hp;rw [rv] at h;injection h with h
  exact (oA (Prod.mk.inj h).1.symm).elim
 ·unfold fnR at h;rw [dif_neg hp] at h;by_cases hv:v=.nilFunc
  ·exact hv
  ·rw [if_neg hv] at h;cases h
def exV (j:Nat):Value:=match gt bX j with | some f=>.func (.func f) #[] #[] | none=>.nilFunc
theorem yl (w:World):(zeroValue 252).run Tryz.prog w=.ok .nilFunc w:=by kernel_rfl
theorem ym (w:World):(zeroValue 250).run Tryz.prog w=.ok .nilFunc w:=by kernel_rfl
theorem yn {w:World} {b:Nat} (h:cZ bX w b) {j:Nat} (hj:j≤17):(Instr.lookup 198 (.map (some b)) (.int .i64 j) true).run Tryz.prog w=.ok (.tuple #[exV j,.bool (gt bX j).isSome]) w:=by
 obtain ⟨n,h⟩:=h;have hwf:(Lit.int .i64 (j:Int)).wf=true:=fZ (by omega);obtain ⟨v,ps,hrun,hv⟩:=h.look_ok (int_keyed Tryz.underlying3) Tryz.underlying198 (yl w) ow (keyOf_int_mk Tryz.underlying3 hwf);rw [hrun,(zi hj).2];rw [(zi hj).1] at hv;have:v=exV j:=by
  unfold exV;cases hf:gt bX j with
  | none=>rw [hf] at hv;exact tV hv
  | some f=>
   rw [hf] at hv;rcases oy hv with ⟨f',rfl,hz'⟩ | hz'
   ·rw [oz ((Prod.mk.inj hz').1.symm)]
   ·exact (oA ((Prod.mk.inj hz').1.symm)).elim
 rw [this]
theorem yo {w:World} {b:Nat} (h:cZ cr w b) {j f:Nat} (hj:j≤9) (hf:gt cr j=some f):(Instr.lookup 196 (.map (some b)) (.int .i64 j) false).run Tryz.prog w=.ok (.func (.func f) #[] #[]) w:=
 h.look' Tryz.underlying196 (ym w) (by omega) (by have:=(zj hj).1;rw [hf] at this;exact this)
theorem oC (args:Array Value) (w:World):(callFunc 182 args).run Tryz.prog w=.ok (.enter 182 args) w:=by kernel_rfl
theorem rA (args:Array Value) (w:World):(callFunc 183 args).run Tryz.prog w=.ok (.enter 183 args) w:=by kernel_rfl
theorem p6 (args:Array Value) (w:World):(callFunc 184 args).run Tryz.prog w=.ok (.enter 184 args) w:=by kernel_rfl
theorem tW (args:Array Value) (w:World):(callFunc 185 args).run Tryz.prog w=.ok (.enter 185 args) w:=by kernel_rfl
theorem tX (args:Array Value) (w:World):(callFunc 186 args).run Tryz.prog w=.ok (.enter 186 args) w:=by kernel_rfl
theorem oD (args:Array Value) (w:World):(callFunc 187 args).run Tryz.prog w=.ok (.enter 187 args) w:=by kernel_rfl
theorem oE (args:Array Value) (w:World):(callFunc 172 args).run Tryz.prog w=.ok (.enter 172 args) w:=by kernel_rfl
theorem qb (args:Array Value) (w:World):(callFunc 173 args).run Tryz.prog w=.ok (.enter 173 args) w:=by kernel_rfl
theorem oF (args:Array Value) (w:World):(callFunc 174 args).run Tryz.prog w=.ok (.enter 174 args) w:=by kernel_rfl
theorem rB (args:Array Value) (w:World):(callFunc 175 args).run Tryz.prog w=.ok (.enter 175 args) w:=by kernel_rfl
theorem oG (args:Array Value) (w:World):(callFunc 176 args).run Tryz.prog w=.ok (.enter 176 args) w:=by kernel_rfl
theorem rC (args:Array Value) (w:World):(callFunc 177 args).run Tryz.prog w=.ok (.enter 177 args) w:=by kernel_rfl
theorem rD (args:Array Value) (w:World):(callFunc 178 args).run Tryz.prog w=.ok (.enter 178 args) w:=by kernel_rfl
theorem rE (args:Array Value) (w:World):(callFunc 179 args).run Tryz.prog w=.ok (.enter 179 args) w:=by kernel_rfl
theorem tY (args:Array Value) (w:World):(callFunc 180 args).run Tryz.prog w=.ok (.enter 180 args) w:=by kernel_rfl
theorem rF (args:Array Value) (w:World):(callFunc 181 args).run Tryz.prog w=.ok (.enter 181 args) w:=by kernel_rfl
theorem yp {j f:Nat} (hj:j≤17) (hf:gt bX j=some f) (args:Array Value) (w:World):(callFunc f args).run Tryz.prog w=.ok (.enter f args) w:=by
 have:j=0∨j=1∨j=2∨j=3∨j=4∨j=5∨j=6∨j=7∨j=8∨j=9∨j=10∨j=11∨j=12∨j=13∨j=14∨j=15∨j=16∨j=17:=by omega
 rcases this with rfl | rfl | rfl | rfl | rfl | rfl | rfl | rfl | rfl | rfl | rfl | rfl | rfl | rfl | rfl | rfl | rfl | rfl <;> first | (simp [gt,bX] at hf;done) | (simp [gt,bX] at hf;subst hf;first | (with_reducible exact oC args w) | (with_reducible exact rA args w) | (with_reducible exact p6 args w) | (with_reducible exact tW args w) | (with_reducible exact tX args w) | (with_reducible exact oD args w))
theorem yq {j f:Nat} (hj:j≤9) (hf:gt cr j=some f) (args:Array Value) (w:World):(callFunc f args).run Tryz.prog w=.ok (.enter f args) w:=by
 have:j=0∨j=1∨j=2∨j=3∨j=4∨j=5∨j=6∨j=7∨j=8∨j=9:=by omega
 rcases this with rfl | rfl | rfl | rfl | rfl | rfl | rfl | rfl | rfl | rfl <;> first | (simp [gt,cr] at hf;done) | (simp [gt,cr] at hf;subst hf;first | (with_reducible exact oE args w) | (with_reducible exact qb args w) | (with_reducible exact oF args w) | (with_reducible exact rB args w) | (with_reducible exact oG args w) | (with_reducible exact rC args w) | (with_reducible exact rD args w) | (with_reducible exact rE args w) | (with_reducible exact tY args w) | (with_reducible exact rF args w))
theorem AK {j f:Nat} (hj:j≤17) (hf:gt bX j=some f) (F:Es) (hX:∀G:Es,G.size < F.size→jm G):ry f F (j:Int):=by
 have:j=0∨j=1∨j=2∨j=3∨j=4∨j=14∨j=15∨(5≤j∧j≤13)∨(16≤j∧j≤17):=by omega
 rcases this with rfl | rfl | rfl | rfl | rfl | rfl | rfl | h | h
 ·cases hf;exact p3 F
 ·cases hf;exact tU F
 ·cases hf;exact wg F hX
 ·cases hf;exact zW F hX
 ·cases hf;exact zV F hX
 ·cases hf;exact nw F 14 (.inl rfl) hX
 ·cases hf;exact nw F 15 (.inr rfl) hX
 ·exfalso;have:j=5∨j=6∨j=7∨j=8∨j=9∨j=10∨j=11∨j=12∨j=13:=by omega
  rcases this with rfl | rfl | rfl | rfl | rfl | rfl | rfl | rfl | rfl <;> simp [gt,bX] at hf
 ·exfalso;have:j=16∨j=17:=by omega
  rcases this with rfl | rfl <;> simp [gt,bX] at hf
theorem tZ {j N:Nat} (h:dG[j]?=some (N:Int)):j≤17∧(gt bX j=none→N=2):=by
 have hl:j < dG.length:=(List.getElem?_eq_some_iff.1 h).1;have hj:j≤17:=by simp [dG] at hl;omega
 refine ⟨hj,fun hn=>?_⟩;have:j=0∨j=1∨j=2∨j=3∨j=4∨j=5∨j=6∨j=7∨j=8∨j=9∨j=10∨j=11∨j=12∨j=13∨j=14∨j=15∨j=16∨j=17:=by omega
 rcases this with rfl | rfl | rfl | rfl | rfl | rfl | rfl | rfl | rfl | rfl | rfl | rfl | rfl | rfl | rfl | rfl | rfl | rfl <;> first | (exact absurd hn (by decide)) | (simp [dG] at h;omega)
set_option maxRecDepth 20000 in
set_option maxHeartbeats 1000000 in
theorem wh (F:Es) (hX:∀G:Es,G.size < F.size→jm G):jm F:=by
 intro w lo g wb n c K o op nn nm A N C tt h hE hnn hnm hj hg hsz hn;obtain ⟨j,rfl,hP⟩:=hj;obtain ⟨hj,hN⟩:=tZ hP;obtain ⟨x,hx⟩:∃x,(gt bX j).isSome=x:=⟨_,rfl⟩;obtain ⟨V,hV⟩:∃V,exV j=V:=⟨_,rfl⟩;have HLK:Hid (∀wk b,cZ bX wk b→(Instr.lookup 198 (.map (some b)) (.int .i64 j) true).run Tryz.prog wk=.ok (.tuple #[V,.bool x]) wk):=fun wk b hb=>by rw [←hx,←hV];exact yn hb hj
 have hlp:=h.m.hp;have HE:=aa hE;have HX:=aa hX;have HP:=aa hP;have HXX:=aa hx;have HVV:=aa hV;have HNN:=aa hN;have HGG:=aa hg;clear hE hX hP hx hV hN hg;obtain ⟨z,hz⟩:∃z,w.heap.size=z:=⟨_,rfl⟩;have hnz:=h.m.new;rw [hz] at hnz;obtain ⟨w1,hw1⟩:∃w1,w.alloc (.cells (exC j nn nm A N C).toArray 257)=w1:=⟨_,rfl⟩;have hk:Bk w1 z 257 (exC j nn nm A N C):=hw1▸Bk.at_ w _ _ hz rfl;have hb:Below w.heap.size w w1:=hw1▸ai w _;have HW:=aa hw1;have HB:=aa hb;have HZ:=aa hz;have HK:=aa hk;have HM:=aa (h.later hb);have HNZ:=aa hnz;clear hk hw1 hz hb h hnz;go_enter Tryz.func220,Tryz.ntmps220;go_upto_region 1 with fail
 rw [HW.out,HZ.out];have HBL:=aa (HB.mono hlp);have HLO:=aa (Nat.le_trans hlp HB.size);refine wp_region_held_drew (S:=fun wk=>Bk wk z 257 (exC j nn nm A N C)∧wk.cell? ⟨g,16,none⟩=some (.map (some K.me))∧cZ bX wk K.me) (by kernel_rfl)
  ⟨HK.later (ac w1 _ 1),(HM.later (ac w1 _ 1)).m.c15.2,(HM.later (ac w1 _ 1)).ex⟩ (fun hHeld=>?_)
 obtain ⟨w2,hw2⟩:∃wa,w1.drew=wa:=⟨_,rfl⟩;have hb2:Below w1.heap.size w1 w2:=hw2▸ac w1 w1.heap.size 1;rw [hw2] at hHeld ⊢;have HB2:=aa hb2;have HM2:=aa (HM.later hb2);have HK2:=aa (HK.later hb2);clear hw2 hb2;have HBL2:=aa (HBL.trans (HB2.mono HLO.out));refine tk 0 ?_;refine tk 4 ?_;refine tk 1 ?_;refine tkv 5 rfl (fun w hSw=>by have hcell:=(show w.cell? ⟨z,0,none⟩=some (.int .i64 j) from hSw.1.cell 0);clear hSw;go_simp;try with_reducible rfl) ?_;refine tk 2 ?_;refine tkv 3 rfl (fun w hSw=>by have hcell:=hSw.2.1;clear hSw;go_simp;try with_reducible rfl) ?_;refine tkv 6 rfl (fun w hSw=>by have hcell:=HLK.out w K.me hSw.2.2;clear hSw;go_simp;try with_reducible rfl) ?_;refine tk 7 ?_;refine tk 8 ?_;refine tk 9 ?_;refine tk 10 ?_;refine tk 11 ?_;refine wpAnyH_done rfl ?_ _;cases hf:gt bX j with
 | some f=>
  have hx1:x=true:=by have:=HXX.out;rw [hf] at this;exact this.symm
  have hV1:V=.func (.func f) #[] #[]:=by have:=HVV.out;unfold exV at this;rw [hf] at this;exact this.symm
  have hcf:=yp hj hf;have HGO:=aa (AK hj hf F HX.out);subst hx1 hV1;clear hf HLK HXX HVV;go_wp2_with (with_reducible refine aj rfl 257 _ rfl z rfl (exC j nn nm A N C) 257 HK2.out _ Tryz.underlying257 rfl (aV _ _ _ _ _ _) ?_)
  refine (HGO.out w2 lo g wb n c K o nn nm A N C tt HM2.out (HE.below HBL2.out) hnn hnm ⟨j,rfl,HP.out⟩ HGG.out hsz hn).mono ?_;rintro e w3 ⟨rfl,q3,o3,hl3,hu3,hm9,hf9⟩;have HM3:=aa hm9;have HF3:=aa hf9;clear hm9 hf9;clear hcf;go_wp2_with fail
  refine bodyPost_end (results_none rfl _ _ _) rfl ?_;exact ⟨rfl,_,_,by omega,by omega,HM3.more (by omega),(((Fr.of HB.out o).then HB2.out).trans HF3.out)⟩
 | none=>
  have hx1:x=false:=by have:=HXX.out;rw [hf] at this;exact this.symm
  obtain rfl:N=2:=HNN.out hf;obtain ⟨b,o0,p1,n1,nm1,A1,N1,C1,k1,p2,n2,nm2,A2,N2,C2,k2,hA,hb0,hr1,hk1,hr2,hk2,hks⟩:=li HE.out HGG.out;have HX1:=aa (HX.out k1 (by omega));have HX2:=aa (HX.out k2 (by omega));have HE1:=aa hk1;have HE2:=aa hk2;have HB0:=aa hb0;have HR1:=aa hr1;have HR2:=aa hr2;subst hA hx1;clear hf HLK HXX HVV hk1 hk2 hr1 hr2 hb0;go_wp2_with fail
  refine wp_region_held_drew (S:=fun wk=>Bk wk z 257 (exC j nn nm (some ⟨b,o0,none⟩) 2 C)∧wk.rangeAt b o0 (exC p1 n1 nm1 A1 N1 C1)∧wk.rangeAt b (o0+4) (exC p2 n2 nm2 A2 N2 C2)) (by kernel_rfl)
   ⟨HK2.later (ac w2 _ 1),bu HR1.out (HBL2.trans ((ac w2 w2.heap.size 1).mono (Nat.le_trans HLO.out HB2.size))) HB0.out,bu HR2.out (HBL2.trans ((ac w2 w2.heap.size 1).mono (Nat.le_trans HLO.out HB2.size))) HB0.out⟩ (fun hHeld=>?_)
  obtain ⟨w3,hw3⟩:∃wa,w2.drew=wa:=⟨_,rfl⟩;have hb3:Below w2.heap.size w2 w3:=hw3▸ac w2 w2.heap.size 1;rw [hw3] at hHeld ⊢;have HB3:=aa hb3;have HM3:=aa (HM2.later hb3);have HK3:=aa (HK2.later hb3);clear hw3 hb3;have HBL3:=aa (HBL2.trans (HB3.mono (Nat.le_trans HLO.out HB2.size)));refine tk 0 ?_;refine tk 1 ?_;refine tk 3 ?_;refine tk 7 ?_;refine tk 11 ?_;refine tkv 2 rfl (fun w hSw=>by have hcell:=(show w.cell? ⟨z,0,none⟩=some (.int .i64 j) from hSw.1.cell 0);clear hSw;go_simp;try with_reducible rfl) ?_;refine tkv 4 rfl (fun w hSw=>by have hcell:=(show w.cell? ⟨z,3,none⟩=some (.slice (some ⟨b,o0,none⟩) 2 C) from hSw.1.cell 3);clear hSw;go_simp;try with_reducible rfl) ?_;refine tkv 8 rfl (fun w hSw=>by have hcell:=(show w.cell? ⟨z,3,none⟩=some (.slice (some ⟨b,o0,none⟩) 2 C) from hSw.1.cell 3);clear hSw;go_simp;try with_reducible rfl) ?_;refine tk 5 ?_;refine tk 9 ?_;refine tkR 6 (exC p1 n1 nm1 A1 N1 C1) (fun w hSw=>hSw.2.1) Tryz.underlying257 ((aV p1 n1 nm1 A1 N1 C1)) ?_;refine tkR 10 (exC p2 n2 nm2 A2 N2 C2) (fun w hSw=>hSw.2.2) Tryz.underlying257 ((aV p2 n2 nm2 A2 N2 C2)) ?_;refine rd1 12 (fun K hK=>?_);go_simp
  (refine (vZ k1 k2 HX1.out HX2.out w3 lo g wb n c _ o (j:Int) p1 p2 n1 n2 nm1 nm2 A1 A2 N1 C1 N2 C2 tt HM3.out (HE1.below HBL3.out) (HE2.below HBL3.out) (by unfold InR;omega) (by omega) (by omega)).mono ?_;rintro e w4 ⟨rfl,q4,o4,hl4,hu4,hm9,hf9⟩;have HM4:=aa hm9;have HF4:=aa hf9;clear hm9 hf9)
  refine so hK (⟨HF4.keep HK3.out HNZ.out.1 HNZ.out.2.1 HNZ.out.2.2,bu HR1.out (HBL3.trans (HM3.m.below HF4.out)) HB0.out,bu HR2.out (HBL3.trans (HM3.m.below HF4.out)) HB0.out⟩) (fun hHeld=>?_);clear hK K;refine wpAnyH_done rfl ?_ _;go_wp2_with fail
  refine bodyPost_end (results_none rfl _ _ _) rfl ?_;exact ⟨rfl,_,_,by omega,by omega,HM4.more (by omega),((((Fr.of HB.out o).then HB2.out).then HB3.out).trans HF4.out)⟩
theorem eD (F:Es):jm F:=by
 obtain ⟨m,hm⟩:∃m,F.size=m:=⟨_,rfl⟩;induction m using Nat.strongRecOn generalizing F with
 | ind m ih=>exact wh F fun G hG=>ih G.size (by omega) G rfl
theorem Bo {v:Int} (h:InR v:=by first | with_reducible exact pZ _ | with_reducible exact vX _):InR v:=h
def lZ (f:Nat) (kd:Int) (E:Es) (L M:Ss):Prop:=∀(w:World) (lo g wb n c:Nat) (K:MkK) (o:Option Nat) (nm:ByteArray) (A:Option Addr) (N C:Nat) (l h:Int) (A1:Option Addr) (N1 C1:Nat) (A2:Option Addr) (N2 C2:Nat),
 MkA w lo g wb n c K o→iA w lo kd nm A N C E l h A1 N1 C1 L A2 N2 C2 M→pV kd N E L M→n+7*(E.size+L.size+M.size+1)≤2047→c+E.size+L.size+M.size+1≤1048576→
 Calls Tryz.prog f #[.pointer (some ⟨g,0,none⟩),.agg (aR kd nm A N C l h A1 N1 C1 A2 N2 C2).toArray] w (oB lo g wb n c K o w (7*(E.size+L.size+M.size+1)) (E.size+L.size+M.size+1))
set_option maxRecDepth 20000 in
theorem rI (E:Es) (L M:Ss):lZ 176 4 E L M:=by
 intro w lo g wb n c K o nm A N C l h2 A1 N1 C1 A2 N2 C2 h0 hs hgd hn hc;clear hs hgd;have h:=h0;clear h0;obtain ⟨z,hz⟩:∃z,w.heap.size=z:=⟨_,rfl⟩;have hnz:=h.m.new;rw [hz] at hnz;obtain ⟨w1,hw1⟩:∃w1,w.alloc (.cells (aR 4 nm A N C l h2 A1 N1 C1 A2 N2 C2).toArray 186)=w1:=⟨_,rfl⟩;have hk:Bk w1 z 186 (aR 4 nm A N C l h2 A1 N1 C1 A2 N2 C2):=hw1▸Bk.at_ w _ _ hz rfl;have hb:Below w.heap.size w w1:=hw1▸ai w _;have HW:=aa hw1;have HB:=aa hb;have HZ:=aa hz;have HK:=aa hk;have HM:=aa (h.later hb);have HNZ:=aa hnz;clear hk hw1 hz hb h hnz;go_enter Tryz.func176,Tryz.ntmps176;go_upto_region 1 with fail
 rw [HW.out,HZ.out];go_wp2_with fail
 refine (aL _ _ _ _ _ _ _ _ HM.out _ _ _ _ (⟨aM rfl,aM rfl,aM rfl,aM rfl⟩) (by omega)).mono ?_;rintro e w2 ⟨rfl,o2,hm9,hf9,_⟩;have HM2:=aa hm9;have HF2:=aa hf9;clear hm9 hf9;go_wp2_with fail
 refine bodyPost_end (results_none rfl _ _ _) rfl ?_;exact ⟨rfl,_,_,by omega,by omega,HM2.more (by omega),((Fr.of HB.out o).trans HF2.out)⟩
set_option maxRecDepth 20000 in
theorem wl (E:Es) (L M:Ss):lZ 179 7 E L M:=by
 intro w lo g wb n c K o nm A N C l h2 A1 N1 C1 A2 N2 C2 h0 hs hgd hn hc;clear hs hgd;have h:=h0;clear h0;obtain ⟨z,hz⟩:∃z,w.heap.size=z:=⟨_,rfl⟩;have hnz:=h.m.new;rw [hz] at hnz;obtain ⟨w1,hw1⟩:∃w1,w.alloc (.cells (aR 7 nm A N C l h2 A1 N1 C1 A2 N2 C2).toArray 186)=w1:=⟨_,rfl⟩;have hk:Bk w1 z 186 (aR 7 nm A N C l h2 A1 N1 C1 A2 N2 C2):=hw1▸Bk.at_ w _ _ hz rfl;have hb:Below w.heap.size w w1:=hw1▸ai w _;have HW:=aa hw1;have HB:=aa hb;have HZ:=aa hz;have HK:=aa hk;have HM:=aa (h.later hb);have HNZ:=aa hnz;clear hk hw1 hz hb h hnz;go_enter Tryz.func179,Tryz.ntmps179;go_upto_region 1 with fail
 rw [HW.out,HZ.out];have e12:=HM.m.c12;go_wp2_with fail
 clear e12;refine (aL _ _ _ _ _ _ _ _ HM.out _ _ _ _ (⟨aM rfl,Bo,aM rfl,aM rfl⟩) (by omega)).mono ?_;rintro e w2 ⟨rfl,o2,hm9,hf9,_⟩;have HM2:=aa hm9;have HF2:=aa hf9;clear hm9 hf9;go_wp2_with fail
 refine (aL _ _ _ _ _ _ _ _ HM2.out _ _ _ _ (⟨aM rfl,aM rfl,aM rfl,aM rfl⟩) (by omega)).mono ?_;rintro e w3 ⟨rfl,o3,hm9,hf9,_⟩;have HM3:=aa hm9;have HF3:=aa hf9;clear hm9 hf9;go_wp2_with fail
 refine bodyPost_end (results_none rfl _ _ _) rfl ?_;exact ⟨rfl,_,_,by omega,by omega,HM3.more (by omega),(((Fr.of HB.out o).trans HF2.out).trans HF3.out)⟩
set_option maxRecDepth 20000 in
set_option maxHeartbeats 1000000 in
theorem wm (E:Es) (L M:Ss):lZ 178 6 E L M:=by
 intro w lo g wb n c K o nm A N C l h2 A1 N1 C1 A2 N2 C2 h0 hs hgd hn hc;obtain ⟨⟨j,hj1,hj2⟩,hgE,hgI,hgF⟩:=hgd;obtain rfl:j=6:=by omega
 obtain rfl:N=1:=by simp [fp] at hj2;omega
 clear hj1 hj2;obtain ⟨b,o0,op',n',nm',A',N',C',k1,hA,hb0,hr,hk1,hk2⟩:=gX hs.e hgE;have hlp:=h0.m.hp;have HR:=aa hr;have HE1:=aa hk1;have HB0:=aa hb0;subst hA;clear hr hk1 hb0;clear hs hgE hgI hgF;have h:=h0;clear h0;obtain ⟨z,hz⟩:∃z,w.heap.size=z:=⟨_,rfl⟩;have hnz:=h.m.new;rw [hz] at hnz;obtain ⟨w1,hw1⟩:∃w1,w.alloc (.cells (aR 6 nm (some ⟨b,o0,none⟩) 1 C l h2 A1 N1 C1 A2 N2 C2).toArray 186)=w1:=⟨_,rfl⟩;have hk:Bk w1 z 186 (aR 6 nm (some ⟨b,o0,none⟩) 1 C l h2 A1 N1 C1 A2 N2 C2):=hw1▸Bk.at_ w _ _ hz rfl;have hb:Below w.heap.size w w1:=hw1▸ai w _;have HW:=aa hw1;have HB:=aa hb;have HZ:=aa hz;have HK:=aa hk;have HM:=aa (h.later hb);have HNZ:=aa hnz;clear hk hw1 hz hb h hnz;go_enter Tryz.func178,Tryz.ntmps178;go_upto_region 1 with fail
 rw [HW.out,HZ.out];have HBL:=aa (HB.mono hlp);have HR1:=aa (bu HR.out HBL.out HB0.out);have c2:w1.cell? ⟨z,2,none⟩=some (.slice (some ⟨b,o0,none⟩) 1 C):=HK.cell 2;go_wp2_with (with_reducible refine wpList_load_mid rfl 257 _ rfl b o0 rfl (exC op' n' nm' A' N' C') _ HR1.out Tryz.underlying257 rfl (aV _ _ _ _ _ _) ?_)
 clear c2;refine (eD k1 w1 lo g wb n c K o op' n' nm' A' N' C' 0 HM.out (HE1.below HBL.out).e HE1.n HE1.nm HE1.op HE1.good (by omega) (by omega)).mono ?_;rintro e w2 ⟨rfl,q2,o2,hl2,hu2,hm9,hf9⟩;have HM2:=aa hm9;have HF2:=aa hf9;clear hm9 hf9;go_wp2_with fail
 refine wp_region_held_drew (S:=fun wk=>wk.cell? ⟨g,12,none⟩=some (.int .i64 K.bh)) (by kernel_rfl) (HM2.later (ac w2 _ 1)).m.c12 (fun hHeld=>?_);obtain ⟨w4,hw4⟩:∃wa,w2.drew=wa:=⟨_,rfl⟩;have hb4:Below w2.heap.size w2 w4:=hw4▸ac w2 w2.heap.size 1;rw [hw4] at hHeld ⊢;have HB4:=aa hb4;have HM4:=aa (HM2.later hb4);clear hw4 hb4;refine tk 0 ?_;refine tk 1 ?_;refine tk 6 ?_;refine tk 2 ?_;refine tk 3 ?_;refine tkv 4 rfl (fun w hSw=>by have hcell:=hSw;clear hSw;go_simp;try with_reducible rfl) ?_;refine tk 5 ?_;refine rd1 7 (fun K hK=>?_);go_simp
 (refine (bt _ g _ _ HM4.m.c12).mono ?_;rintro e w' ⟨rfl,rfl⟩)
 refine so hK (HM4.m.c12) (fun hHeld=>?_);clear hK K;refine rd1 8 (fun K hK=>?_);go_simp
 (refine (aL _ _ _ _ _ _ _ _ HM4.out _ _ _ _ ⟨aM rfl,Bo,aZ _ _,aM rfl⟩ (by omega)).mono ?_;rintro e w5 ⟨rfl,o5,hm9,hf9,_⟩;have HM5:=aa hm9;have HF5:=aa hf9;clear hm9 hf9)
 refine so hK (HM5.m.c12) (fun hHeld=>?_);clear hK K;refine wpAnyH_done rfl ?_ _;go_wp2_with fail
 refine (aL _ _ _ _ _ _ _ _ HM5.out _ _ _ _ (⟨aM rfl,aM rfl,aM rfl,aM rfl⟩) (by omega)).mono ?_;rintro e w6 ⟨rfl,o6,hm9,hf9,_⟩;have HM6:=aa hm9;have HF6:=aa hf9;clear hm9 hf9;go_wp2_with fail
 refine bodyPost_end (results_none rfl _ _ _) rfl ?_;exact ⟨rfl,_,_,by omega,by omega,HM6.more (by omega),((((Fr.of HB.out o).trans HF2.out).then HB4.out).trans (HF5.trans HF6.out))⟩
set_option maxRecDepth 20000 in
set_option maxHeartbeats 1000000 in
theorem kV (w:World) (lo g wb n c:Nat) (K:MkK) (o:Option Nat) (i:Int) (h:MkA w lo g wb n c K o) (hn:n≤4000):Calls Tryz.prog 224 #[.pointer (some ⟨g,0,none⟩),.int .i64 i] w (oB lo g wb n c K o w 2 0):=by
 have HM:=aa h;have hst:=h.pg.seats;clear h;go_enter Tryz.func224,Tryz.ntmps224;go_wp2_with fail
 refine wp_region_held_drew (S:=fun wk=>wk.cell? ⟨g,12,none⟩=some (.int .i64 K.bh)∧wk.cell? ⟨g,2,none⟩=some (.int .i64 K.p.seats)) (by kernel_rfl) ⟨(HM.later (ac w _ 1)).m.c12,(HM.later (ac w _ 1)).m.c2⟩ (fun hHeld=>?_);obtain ⟨w2,hw2⟩:∃wa,w.drew=wa:=⟨_,rfl⟩;have hb2:Below w.heap.size w w2:=hw2▸ac w w.heap.size 1;rw [hw2] at hHeld ⊢;have HB2:=aa hb2;have HM2:=aa (HM.later hb2);clear hw2 hb2;refine tk 0 ?_;refine tk 1 ?_;refine tk 2 ?_;refine tk 5 ?_;refine tk 6 ?_;refine tk 8 ?_;refine tk 3 ?_;refine tk 9 ?_;refine tk 10 ?_;refine tk 11 ?_;refine tkv 12 rfl (fun w hSw=>by have hcell:=hSw.2;clear hSw;go_simp;try with_reducible rfl) ?_;refine rd1 4 (fun K hK=>?_);go_simp
 (refine (bt _ g _ _ HM2.m.c12).mono ?_;rintro e w' ⟨rfl,rfl⟩)
 refine so hK (⟨HM2.m.c12,HM2.m.c2⟩) (fun hHeld=>?_);clear hK K;refine rd1 7 (fun K hK=>?_);go_simp
 (refine (bt _ g _ _ HM2.m.c12).mono ?_;rintro e w' ⟨rfl,rfl⟩)
 refine so hK (⟨HM2.m.c12,HM2.m.c2⟩) (fun hHeld=>?_);clear hK K;refine rd1 13 (fun K hK=>?_);go_simp
 (refine (aL _ _ _ _ _ _ _ _ HM2.out _ _ _ _ (⟨aM rfl,aZ _ _,aZ _ _,hst⟩) (by omega)).mono ?_;rintro e w3 ⟨rfl,o3,hm9,hf9,_⟩;have HM3:=aa hm9;have HF3:=aa hf9;clear hm9 hf9)
 refine so hK (⟨HM3.m.c12,HM3.m.c2⟩) (fun hHeld=>?_);clear hK K;refine wpAnyH_done rfl ?_ _;have e12:=HM3.m.c12;go_wp2_with (go_at_call 221;refine (bt _ g K.bh _ (e12)).mono ?_;rintro e w' ⟨rfl,rfl⟩)
 clear e12;refine (aL _ _ _ _ _ _ _ _ HM3.out _ _ _ _ (⟨aM rfl,aZ _ _,aZ _ _,aZ _ _⟩) (by omega)).mono ?_;rintro e w4 ⟨rfl,o4,hm9,hf9,_⟩;have HM4:=aa hm9;have HF4:=aa hf9;clear hm9 hf9;go_wp2_with fail
 refine bodyPost_end (results_none rfl _ _ _) rfl ?_;exact ⟨rfl,_,_,by omega,by omega,HM4.more (by omega),(((Fr.of HB2.out o).trans HF3.out).trans HF4.out)⟩
set_option maxRecDepth 20000 in
set_option maxHeartbeats 1000000 in
theorem wn (E:Es) (L M:Ss):lZ 181 9 E L M:=by
 intro w lo g wb n c K o nm A N C l h2 A1 N1 C1 A2 N2 C2 h0 hs hgd hn hc;obtain ⟨⟨j,hj1,hj2⟩,hgE,hgI,hgF⟩:=hgd;obtain rfl:j=9:=by omega
 obtain rfl:N=1:=by simp [fp] at hj2;omega
 clear hj1 hj2;obtain ⟨b,o0,op',n',nm',A',N',C',k1,hA,hb0,hr,hk1,hk2⟩:=gX hs.e hgE;have hlp:=h0.m.hp;have HR:=aa hr;have HE1:=aa hk1;have HB0:=aa hb0;subst hA;clear hr hk1 hb0;clear hs hgE hgI hgF;have h:=h0;clear h0;obtain ⟨z,hz⟩:∃z,w.heap.size=z:=⟨_,rfl⟩;have hnz:=h.m.new;rw [hz] at hnz;obtain ⟨w1,hw1⟩:∃w1,w.alloc (.cells (aR 9 nm (some ⟨b,o0,none⟩) 1 C l h2 A1 N1 C1 A2 N2 C2).toArray 186)=w1:=⟨_,rfl⟩;have hk:Bk w1 z 186 (aR 9 nm (some ⟨b,o0,none⟩) 1 C l h2 A1 N1 C1 A2 N2 C2):=hw1▸Bk.at_ w _ _ hz rfl;have hb:Below w.heap.size w w1:=hw1▸ai w _;have HW:=aa hw1;have HB:=aa hb;have HZ:=aa hz;have HK:=aa hk;have HM:=aa (h.later hb);have HNZ:=aa hnz;clear hk hw1 hz hb h hnz;go_enter Tryz.func181,Tryz.ntmps181;go_upto_region 1 with fail
 rw [HW.out,HZ.out];have HBL:=aa (HB.mono hlp);have HR1:=aa (bu HR.out HBL.out HB0.out);have c2:w1.cell? ⟨z,2,none⟩=some (.slice (some ⟨b,o0,none⟩) 1 C):=HK.cell 2;go_wp2_with (with_reducible refine wpList_load_mid rfl 257 _ rfl b o0 rfl (exC op' n' nm' A' N' C') _ HR1.out Tryz.underlying257 rfl (aV _ _ _ _ _ _) ?_)
 clear c2;refine (eD k1 w1 lo g wb n c K o op' n' nm' A' N' C' 0 HM.out (HE1.below HBL.out).e HE1.n HE1.nm HE1.op HE1.good (by omega) (by omega)).mono ?_;rintro e w2 ⟨rfl,q2,o2,hl2,hu2,hm9,hf9⟩;have HM2:=aa hm9;have HF2:=aa hf9;clear hm9 hf9;go_wp2_with fail
 refine (kV w2 lo g wb q2 _ K o2 0 HM2.out (by omega)).mono ?_;rintro e w3 ⟨rfl,q3,o3,hl3,hu3,hm9,hf9⟩;have HM3:=aa hm9;have HF3:=aa hf9;clear hm9 hf9;go_wp2_with fail
 refine wp_region_held_drew (S:=fun wk=>wk.cell? ⟨g,12,none⟩=some (.int .i64 K.bh)) (by kernel_rfl) (HM3.later (ac w3 _ 1)).m.c12 (fun hHeld=>?_);obtain ⟨w4,hw4⟩:∃wa,w3.drew=wa:=⟨_,rfl⟩;have hb4:Below w3.heap.size w3 w4:=hw4▸ac w3 w3.heap.size 1;rw [hw4] at hHeld ⊢;have HB4:=aa hb4;have HM4:=aa (HM3.later hb4);clear hw4 hb4;refine tk 0 ?_;refine tk 1 ?_;refine tk 6 ?_;refine tk 2 ?_;refine tk 3 ?_;refine tkv 4 rfl (fun w hSw=>by have hcell:=hSw;clear hSw;go_simp;try with_reducible rfl) ?_;refine tk 5 ?_;refine rd1 7 (fun K hK=>?_);go_simp
 (refine (bt _ g _ _ HM4.m.c12).mono ?_;rintro e w' ⟨rfl,rfl⟩)
 refine so hK (HM4.m.c12) (fun hHeld=>?_);clear hK K;refine rd1 8 (fun K hK=>?_);go_simp
 (refine (aL _ _ _ _ _ _ _ _ HM4.out _ _ _ _ (⟨aM rfl,Bo,aZ _ _,aM rfl⟩) (by omega)).mono ?_;rintro e w5 ⟨rfl,o5,hm9,hf9,_⟩;have HM5:=aa hm9;have HF5:=aa hf9;clear hm9 hf9)
 refine so hK (HM5.m.c12) (fun hHeld=>?_);clear hK K;refine wpAnyH_done rfl ?_ _;go_wp2_with fail
 refine bodyPost_end (results_none rfl _ _ _) rfl ?_;exact ⟨rfl,_,_,by omega,by omega,HM5.more (by omega),(((((Fr.of HB.out o).trans HF2.out).trans HF3.out).then HB4.out).trans HF5.out)⟩
set_option maxRecDepth 20000 in
set_option maxHeartbeats 1000000 in
theorem yt (E:Es) (L M:Ss):lZ 180 8 E L M:=by
 intro w lo g wb n c K o nm A N C l h2 A1 N1 C1 A2 N2 C2 h0 hs hgd hn hc;obtain ⟨⟨j,hj1,hj2⟩,hgE,hgI,hgF⟩:=hgd;obtain rfl:j=8:=by omega
 obtain rfl:N=2:=by simp [fp] at hj2;omega
 clear hj1 hj2;obtain ⟨b,o0,p1,m1,nm1,B1,V1,D1,k1,p2,m2,nm2,B2,V2,D2,k2,hA,hb0,hr1,hk1,hr2,hk2,hks⟩:=li hs.e hgE;have hlp:=h0.m.hp;have HE1:=aa hk1;have HE2:=aa hk2;have HB0:=aa hb0;have HR1:=aa hr1;have HR2:=aa hr2;subst hA;clear hr1 hr2 hk1 hk2 hb0 hs hgE hgI hgF;have h:=h0;clear h0;obtain ⟨z,hz⟩:∃z,w.heap.size=z:=⟨_,rfl⟩;have hnz:=h.m.new;rw [hz] at hnz;obtain ⟨w1,hw1⟩:∃w1,w.alloc (.cells (aR 8 nm (some ⟨b,o0,none⟩) 2 C l h2 A1 N1 C1 A2 N2 C2).toArray 186)=w1:=⟨_,rfl⟩;have hk:Bk w1 z 186 (aR 8 nm (some ⟨b,o0,none⟩) 2 C l h2 A1 N1 C1 A2 N2 C2):=hw1▸Bk.at_ w _ _ hz rfl;have hb:Below w.heap.size w w1:=hw1▸ai w _;have HW:=aa hw1;have HB:=aa hb;have HZ:=aa hz;have HK:=aa hk;have HM:=aa (h.later hb);have HNZ:=aa hnz;clear hk hw1 hz hb h hnz;go_enter Tryz.func180,Tryz.ntmps180;go_upto_region 1 with fail
 rw [HW.out,HZ.out];have HBL:=aa (HB.mono hlp);have HRB:=aa (bu HR2.out HBL.out HB0.out);have c2:w1.cell? ⟨z,2,none⟩=some (.slice (some ⟨b,o0,none⟩) 2 C):=HK.cell 2;go_wp2_with (with_reducible refine wpList_load_mid rfl 257 _ rfl b (o0+4) rfl (exC p2 m2 nm2 B2 V2 D2) _ HRB.out Tryz.underlying257 rfl (aV _ _ _ _ _ _) ?_)
 clear c2;refine (eD k2 w1 lo g wb n c K o p2 m2 nm2 B2 V2 D2 0 HM.out (HE2.below HBL.out).e HE2.n HE2.nm HE2.op HE2.good (by omega) (by omega)).mono ?_;rintro e w2 ⟨rfl,q2,o2,hl2,hu2,hm9,hf9⟩;have HM2:=aa hm9;have HF2:=aa hf9;clear hm9 hf9;have HBL2:=aa (HBL.trans (HM.m.below HF2.out));have HRA:=aa (bu HR1.out HBL2.out HB0.out);have c2:w2.cell? ⟨z,2,none⟩=some (.slice (some ⟨b,o0,none⟩) 2 C):=(HF2.keep HK.out HNZ.out.1 HNZ.out.2.1 HNZ.out.2.2).cell 2;go_wp2_with (with_reducible refine wpList_load_mid rfl 257 _ rfl b o0 rfl (exC p1 m1 nm1 B1 V1 D1) _ HRA.out Tryz.underlying257 rfl (aV _ _ _ _ _ _) ?_)
 clear c2;refine (eD k1 w2 lo g wb q2 _ K o2 p1 m1 nm1 B1 V1 D1 1 HM2.out (HE1.below HBL2.out).e HE1.n HE1.nm HE1.op HE1.good (by omega) (by omega)).mono ?_;rintro e w3 ⟨rfl,q3,o3,hl3,hu3,hm9,hf9⟩;have HM3:=aa hm9;have HF3:=aa hf9;clear hm9 hf9;go_wp2_with fail
 refine (kV w3 lo g wb q3 _ K o3 1 HM3.out (by omega)).mono ?_;rintro e w4 ⟨rfl,q4,o4,hl4,hu4,hm9,hf9⟩;have HM4:=aa hm9;have HF4:=aa hf9;clear hm9 hf9;go_wp2_with fail
 refine wp_region_held_drew (S:=fun wk=>wk.cell? ⟨g,12,none⟩=some (.int .i64 K.bh)) (by kernel_rfl) (HM4.later (ac w4 _ 1)).m.c12 (fun hHeld=>?_);obtain ⟨w5,hw5⟩:∃wa,w4.drew=wa:=⟨_,rfl⟩;have hb5:Below w4.heap.size w4 w5:=hw5▸ac w4 w4.heap.size 1;rw [hw5] at hHeld ⊢;have HB5:=aa hb5;have HM5:=aa (HM4.later hb5);clear hw5 hb5;refine tk 0 ?_;refine tk 5 ?_;refine tk 1 ?_;refine tk 2 ?_;refine tkv 3 rfl (fun w hSw=>by have hcell:=hSw;clear hSw;go_simp;try with_reducible rfl) ?_;refine tk 4 ?_;refine rd1 6 (fun K hK=>?_);go_simp
 (refine (bt _ g _ _ HM5.m.c12).mono ?_;rintro e w' ⟨rfl,rfl⟩)
 refine so hK (HM5.m.c12) (fun hHeld=>?_);clear hK K;refine tk 7 ?_;refine tk 8 ?_;refine wpAnyH_done rfl ?_ _;go_wp2_with fail
 refine (aL _ _ _ _ _ _ _ _ HM5.out _ _ _ _ (⟨aM rfl,aZ _ _,aM rfl,aM rfl⟩) (by omega)).mono ?_;rintro e w6 ⟨rfl,o6,hm9,hf9,_⟩;have HM6:=aa hm9;have HF6:=aa hf9;clear hm9 hf9;have e12:=HM6.m.c12;go_wp2_with (go_at_call 221;refine (bt _ g K.bh _ (e12)).mono ?_;rintro e w' ⟨rfl,rfl⟩)
 clear e12;refine (aL _ _ _ _ _ _ _ _ HM6.out _ _ _ _ (⟨aM rfl,aZ _ _,Bo,aZ _ _⟩) (by omega)).mono ?_;rintro e w7 ⟨rfl,o7,hm9,hf9,_⟩;have HM7:=aa hm9;have HF7:=aa hf9;clear hm9 hf9;have e12:=HM7.m.c12;go_wp2_with (go_at_call 221;refine (bt _ g K.bh _ (e12)).mono ?_;rintro e w' ⟨rfl,rfl⟩)
 clear e12;refine (aL _ _ _ _ _ _ _ _ HM7.out _ _ _ _ (⟨aM rfl,aZ _ _,aZ _ _,aZ _ _⟩) (by omega)).mono ?_;rintro e w8 ⟨rfl,o8,hm9,hf9,_⟩;have HM8:=aa hm9;have HF8:=aa hf9;clear hm9 hf9;go_wp2_with fail
 refine (aL _ _ _ _ _ _ _ _ HM8.out _ _ _ _ (⟨aM rfl,aZ _ _,aM rfl,aM rfl⟩) (by omega)).mono ?_;rintro e w9 ⟨rfl,o9,hm9,hf9,_⟩;have HM9:=aa hm9;have HF9:=aa hf9;clear hm9 hf9;have e12:=HM9.m.c12;go_wp2_with (go_at_call 221;refine (bt _ g K.bh _ (e12)).mono ?_;rintro e w' ⟨rfl,rfl⟩)
 clear e12;refine (aL _ _ _ _ _ _ _ _ HM9.out _ _ _ _ (⟨aM rfl,Bo,aZ _ _,aZ _ _⟩) (by omega)).mono ?_;rintro e wa ⟨rfl,oa,hm9,hf9,_⟩;have HMa:=aa hm9;have HFa:=aa hf9;clear hm9 hf9;go_wp2_with fail
 refine bodyPost_end (results_none rfl _ _ _) rfl ?_;exact ⟨rfl,_,_,by omega,by omega,HMa.more (by omega),((((((Fr.of HB.out o).trans HF2.out).trans HF3.out).trans HF4.out).then HB5.out).trans (HF6.trans (HF7.trans (HF8.trans (HF9.trans HFa.out)))))⟩
end Go.Proofs.YtllbdpdnpaocnaaGreatDoor
