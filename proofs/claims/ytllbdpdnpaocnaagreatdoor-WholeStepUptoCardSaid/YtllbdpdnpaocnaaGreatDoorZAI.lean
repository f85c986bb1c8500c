/- Part of the proof of WholeStep. -/
import Derived.Test.YtllbdpdnpaocnaaGreatDoorZAH
namespace Go.Proofs.YtllbdpdnpaocnaaGreatDoor
set_option linter.unusedSimpArgs false
set_option linter.unusedVariables false
set_option linter.constructorNameAsVariable false
open Go.RowKit Go.Maps
def vN (p:PgT):Prop:=ze p∧AH p∧zg p
theorem Bk.under {w w' : World} {B b:Nat} {T:TypeId} {cs:List Value} (h:Bk w b T cs) (hb:Below B w w') (hlt:b < B):Bk w' b T cs:=by unfold Bk at h ⊢;rw [hb.block b hlt];exact h
theorem am {P:Program} {fn:Func} {q:Tmp} {ty:TypeId} (h:fn.results= #[.cell q ty]) (tmps:Array Value) (w:World) (g:Nat) (t:TypeId) (cs:List Value) (d:TypeDesc) (hp:tmps.getD q undef=.pointer (some ⟨g,0,none⟩)) (hg:Bk w g t cs) (hu:P.underlying ty=some d) (hd:(match d with | .struct _ | .array _ _=>true | _=>false)=true) (hi:(P.info? ty).map (·.size)=some cs.length):(results fn tmps).run P w=.ok (.agg cs.toArray) w:=by
 have hp' : tmps[q]?.getD undef=.pointer (some ⟨g,0,none⟩):=by simpa using hp
 simp only [results,h];simp [Sem.run_bind,hp',asAddr,run_loadVar_row w g t ty cs.toArray (0,0) d hg hu hd (by simpa using hi),Result.andThen]
theorem vO (m:Nat) (w:World):(Instr.build 180 #[(0,.map (some m))]).run Tryz.prog w=.ok (.agg #[.map (some m),.string ⟨#[]⟩,.int .i64 0]) w:=by kernel_rfl
theorem pX (w:World):(Instr.build 110 #[]).run Tryz.prog w=.ok (.agg #[.int .i64 0,.string ⟨#[]⟩]) w:=by kernel_rfl
theorem gV (n:Int) (s:ByteArray):(Tryz.prog.info? 110).map (·.size)=some ([.int .i64 n,.string s]:List Value).length:=by kernel_rfl
def lg (q:Tmp) (ptr:Value) (D:List Deferred) (R:List PanicEntry→World→Prop) (Q:Exit→Act→World→Prop) (e:Exit) (a:Act) (w:World):Prop:=match e with
 | .panic ch=>a.defers=D∧a.tmps.getD q undef=ptr∧R ch w
 | e=>Q e a w
theorem lV {P:Program} {c:Code} {Q:Exit→Act→World→Prop} {a:Act} {w:World} (q:Tmp) (ptr:Value) (D:List Deferred) (R:List PanicEntry→World→Prop) (hq:∀ch a w,a.defers=D→a.tmps.getD q undef=ptr→R ch w→Q (.panic ch) a w) (h:c.wp P (lg q ptr D R Q) a w):c.wp P Q a w:=
 wp_mono h fun e a w he=>by
  cases e with
  | panic ch=>exact hq ch a w he.1 he.2.1 he.2.2
  | _=>exact he
theorem lW {q:Tmp} {ptr:Value} {D:List Deferred} {R:List PanicEntry→World→Prop} {Q:Exit→Act→World→Prop} {a:Act} {w:World} (h:Q .normal a w):lg q ptr D R Q .normal a w:=h
theorem dx {q:Tmp} {ptr:Value} {D:List Deferred} {R:List PanicEntry→World→Prop} {Q:Exit→Act→World→Prop} {a:Act} {w:World} {ch:List PanicEntry} {dst:Option Tmp} {v:Value} (hd:dst≠some q) (h:lg q ptr D R Q (.panic ch) (a.put dst v) w):lg q ptr D R Q (.panic ch) a w:=by
 obtain ⟨h1,h2,h3⟩:=h;cases dst with
 | none=>exact ⟨h1,h2,h3⟩
 | some t=>refine ⟨h1,?_,h3⟩;have hne:t≠q:=fun e=>hd (by rw [e]);rw [←h2];simp only [Act.put,Array.getD_eq_getD_getElem?,Array.getElem?_setIfInBounds_ne hne]
def zh (p:PgT) (e:Ending):Prop:=∃(n:Int) (s:ByteArray),e=.returned (.agg #[.int .i64 n,.string s])∧(n=0→vN p)
def CkR (z:Nat) (w3:World) (ch:List PanicEntry) (w:World):Prop:=∃(pn:Int) (ps:ByteArray),ch=[{ v:=.iface 110 (.agg #[.int .i64 pn,.string ps]),recovered:=false }]∧pn≠0∧Below (z+2) w3 w
theorem gr (w0 w3:World) (z:Nat) (p:PgT) (HB:Below w0.heap.size w0 w3) (hz:w0.heap.size=z) (HFB:Bk w3 (z+1) 110 [.int .i64 0,.string ⟨#[]⟩]) (ch:List PanicEntry) (a:Act) (w:World) (hd:a.defers=[{ target:=.fn (.func 101) #[.pointer (some ⟨z+1,0,none⟩)],args:=#[] }]) (ht:a.tmps.getD 2 undef=.pointer (some ⟨z+1,0,none⟩))
  (hR:CkR z w3 ch w) :
  Leaves Tryz.prog Tryz.f49 a.tmps (fun e w'=>zh p e∧Below w0.heap.size w0 w') a.defers (.panicking ch) w:=by
 obtain ⟨pn,ps,rfl,hpn,hbl⟩:=hR;rw [hd];refine leaves_cons (f:=101) (args:=#[.pointer (some ⟨z+1,0,none⟩)]) (by simp) (by simp [go_sem]) ?_;refine (ot (z+1) _ pn ps 0 ⟨#[]⟩ (HFB.under hbl (by omega))).mono ?_;rintro e9 u9 w9 ⟨rfl,rfl,hbk,hg⟩;exact ⟨_,am rfl _ _ (z+1) 110 _ _ ht hbk Tryz.underlying110 rfl (gV _ _),⟨pn,ps,rfl,fun h=>absurd h hpn⟩,ag (HB.trans (hbl.mono (by omega))) hg (by have:=(HB.trans (hbl.mono (by omega))).size;omega) (by omega)⟩
set_option maxRecDepth 20000 in
set_option maxHeartbeats 2000000 in
theorem rn (w:World) (p:PgT) (h:cI w w.heap.size p) (hL:cX w):Calls Tryz.prog 49 #[.agg (pgC p).toArray] w fun e w'=>zh p e∧Below w.heap.size w w':=by
 have hmf:∀(fn:Fn) (first cap:Array Value) (w:World),(Instr.makeFunc fn first cap).run Tryz.prog w=.ok (.func fn first cap) w:=fun _ _ _ _=>rfl;obtain ⟨z,hz⟩:∃z,w.heap.size=z:=⟨_,rfl⟩;have hz6:6≤z:=hz▸hL.six;obtain ⟨w1,hw1⟩:∃w1,(w.alloc (.cells (pgC p).toArray 66)).alloc (.cells #[.int .i64 0,.string ⟨#[]⟩] 110)=w1:=⟨_,rfl⟩;have hk:Bk w1 z 66 (pgC p):=hw1▸(Bk.at_ w _ _ hz rfl).alloc _;have hf:Bk w1 (z+1) 110 [.int .i64 0,.string ⟨#[]⟩]:=hw1▸Bk.at_ _ _ _ (by simp [hz]) rfl;have hb1:Below w.heap.size w w1:=hw1▸(ai w _).alloc (by simp) _;have hs1:w1.heap.size=z+2:=by rw [←hw1,←hz];simp
 obtain ⟨w2,hw2⟩:∃w2,w1.alloc (.map #[] 0)=w2:=⟨_,rfl⟩;have hmm:=run_makeMap (P:=Tryz.prog) 178 w1;rw [hw2,hs1] at hmm;have hmb:w2.ownsMap (H:=Unit) Tryz.prog 9 (plainElem Tryz.prog 240) (z+2) 0 (.map []):=by rw [←hw2,←hs1];exact World.ownsMap_made w1 _ _ _
 have hb2:Below w1.heap.size w1 w2:=hw2▸ai w1 _;have hs2:w2.heap.size=z+3:=by rw [←hw2];simp [hs1]
 obtain ⟨w3,hw3⟩:∃w3,w2.alloc (.cells #[.map (some (z+2)),.string ⟨#[]⟩,.int .i64 0] 180)=w3:=⟨_,rfl⟩;have hg3:Bk w3 (z+3) 180 [.map (some (z+2)),.string ⟨#[]⟩,.int .i64 0]:=hw3▸Bk.at_ _ _ _ (by rw [hs2]) rfl;have hb3:Below w2.heap.size w2 w3:=hw3▸ai w2 _;have hb13:Below w1.heap.size w1 w3:=hb2.trans (hb3.mono (by omega));have HC:Hid (Ck w3 (z+2) (z+3) (z+2) 0):=⟨⟨_,_,hg3⟩,⟨0,_,hmb.kept (av hb3) (by simp),Nat.le_refl _⟩,by omega,Nat.le_refl _⟩;have HB:Hid (Below w.heap.size w w3):=ab hb1 hb13;have HZ:=aa hz;have HW1:=aa hw1;have HW3:=aa hw3;have HS2:=aa hs2;have HS3:Hid (z+2≤w3.heap.size):=by have:=hb3.size;show _≤_;omega
 have HK:=aa (hk.later hb13);have HFB:=aa (hf.later hb13);have HPG:Hid (cI w3 (z+2) p):=(h.below HB.out).more (by omega);have HLA:Hid (cX w3):=hL.later HB.out;have hN2:p.py.N≤1048576:=by have:=h.few;have:=h.py.len;have:=Ss.len_size p.pyL;unfold PgT.size at *; omega
 have HN2v:Hid (2*p.vr.N≤4194304):=by have:=h.few;have:=h.vr.len;unfold PgT.size at *; show _≤_;omega
 have hsi:=h.si;have HTU:Hid (p.tuL.size≤1048576):=by have:=h.few;unfold PgT.size at this;show _≤_;omega
 clear hk hf hb1 hs1 hw2 hmb hb2 hw3 hg3 hb3 hb13 h hL hw1 hs2;go_enter_defers Tryz.func49,Tryz.ntmps49;go_upto_region 1 with fail
 rw [HW1.out];go_upto_region 3 with ((with_reducible refine aS rfl 180 _ rfl #[(0,.map (some (z+2)))] ?_ _ (vO _ _) ?_);focus (simp [Act.eval,Act.put];done))
 rw [HW3.out,HS2.out];clear hmf hmm HW1 HW3 HS2;have HBL3:Hid (Below (z+2) w3 w3):=Below.refl _ _;have HK3:=aa (HK.under HBL3.out (by omega));go_wp2_with (with_reducible refine aj rfl 66 _ rfl z rfl (pgC p) 66 HK3.out _ Tryz.underlying66 rfl (db p) ?_)
 refine (tJ w3 (z+2) (z+3) (z+2) 0 HC.out p HPG.out HLA.out (by omega) HS3.out).mono ?_;rintro e w4 ⟨⟨rfl,_⟩ | ⟨pn,ps,rfl,hpn⟩,hbn⟩;rotate_left
 ·
  exact cS (gr w w3 z p HB.out HZ.out HFB.out _ _ _ rfl rfl ⟨pn,ps,rfl,hpn,(hbn.mono HS3.out)⟩)
 have HBL4:=aa (hbn.mono HS3.out);have HC4:=aa (HC.later hbn);clear hbn;have HK4:=aa (HK.under HBL4.out (by omega));go_wp2_with (with_reducible refine aj rfl 66 _ rfl z rfl (pgC p) 66 HK4.out _ Tryz.underlying66 rfl (db p) ?_)
 refine (tK w4 (z+2) (z+3) (z+2) 0 HC4.out p (HPG.below HBL4.out) (HLA.below (by omega) HBL4.out) (by omega) (Nat.le_trans HS3.out HBL4.size) (by omega)).mono ?_;rintro e w5 ⟨⟨rfl,hV⟩ | ⟨pn,ps,rfl,hpn⟩,hbn,hck⟩;rotate_left
 ·
  exact cS (gr w w3 z p HB.out HZ.out HFB.out _ _ _ rfl rfl ⟨pn,ps,rfl,hpn,(HBL4.trans hbn)⟩)
 have HBL5:=aa (HBL4.trans hbn);have HC5:=aa hck;have HV:=aa hV;clear hbn hck hV;have HK5:=aa (HK.under HBL5.out (by omega));go_wp2_with (with_reducible refine aj rfl 66 _ rfl z rfl (pgC p) 66 HK5.out _ Tryz.underlying66 rfl (db p) ?_)
 refine (pT w5 (z+2) (z+3) (z+2) _ HC5.out p (HPG.below HBL5.out) (HLA.below (by omega) HBL5.out) (by omega) (Nat.le_trans HS3.out HBL5.size)).mono ?_;rintro e w6 ⟨⟨rfl,hV⟩ | ⟨pn,ps,rfl,hpn⟩,hbn,hck⟩;rotate_left
 ·
  exact cS (gr w w3 z p HB.out HZ.out HFB.out _ _ _ rfl rfl ⟨pn,ps,rfl,hpn,(HBL5.trans hbn)⟩)
 have HBL6:=aa (HBL5.trans hbn);have HC6:=aa hck;have HPA:=aa hV;have HS6:=aa (Nat.le_trans HS3.out HBL6.size);have HK6:=aa (HK.under HBL6.out (by omega));clear hbn hck hV;go_wp2_with fail
 refine lV 2 (.pointer (some ⟨z+1,0,none⟩)) [{ target:=.fn (.func 101) #[.pointer (some ⟨z+1,0,none⟩)],args:=#[] }] (CkR z w3) (fun ch a wx hd ht hR=>bj (cS (gr w w3 z p HB.out HZ.out HFB.out ch a wx hd ht hR))) ?_;refine wp_region_held_drew (S:=fun wk=>wk.cell? ⟨z,8,none⟩=some (.string p.si)) (by kernel_rfl) ((HK6.later (ac w6 _ 1)).cell 8) (fun hHeld=>?_);have HB7:=aa (ac w6 w6.heap.size 1);refine wpAnyH_take (i:=0) (v:=?_) rfl (by kernel_rfl) (by kernel_rfl) (by kernel_rfl) (fun _ _ _ h=>dx (by first | decide | simp) h) (Or.inl ⟨by rfl,?_⟩) (by assumption) ?_;rotate_left
 ·intro w hSw
  (try dsimp only at hSw)
  go_simp;try with_reducible rfl
 try simp only [Act.put,List.setIfInBounds_toArray,List.set_cons_zero,List.set_cons_succ,List.getElem_toArray,List.getElem_cons_zero,List.getElem_cons_succ]
 refine wpAnyH_take (i:=3) (v:=?_) rfl (by kernel_rfl) (by kernel_rfl) (by kernel_rfl) (fun _ _ _ h=>dx (by first | decide | simp) h) (Or.inl ⟨by rfl,?_⟩) (by assumption) ?_;rotate_left
 ·intro w hSw
  (try dsimp only at hSw)
  go_simp;try with_reducible rfl
 try simp only [Act.put,List.setIfInBounds_toArray,List.set_cons_zero,List.set_cons_succ,List.getElem_toArray,List.getElem_cons_zero,List.getElem_cons_succ]
 refine wpAnyH_take (i:=1) (v:=?_) rfl (by kernel_rfl) (by kernel_rfl) (by kernel_rfl) (fun _ _ _ h=>dx (by first | decide | simp) h) (Or.inl ⟨by rfl,?_⟩) (by assumption) ?_;rotate_left
 ·intro w hSw;have hcell:=hSw;clear hSw;go_simp;try with_reducible rfl
 try simp only [Act.put,List.setIfInBounds_toArray,List.set_cons_zero,List.set_cons_succ,List.getElem_toArray,List.getElem_cons_zero,List.getElem_cons_succ]
 refine wpAnyH_take (i:=4) (v:=?_) rfl (by kernel_rfl) (by kernel_rfl) (by kernel_rfl) (fun _ _ _ h=>dx (by first | decide | simp) h) (Or.inl ⟨by rfl,?_⟩) (by assumption) ?_;rotate_left
 ·intro w hSw;have hcell:=hSw;clear hSw;go_simp;try with_reducible rfl
 try simp only [Act.put,List.setIfInBounds_toArray,List.set_cons_zero,List.set_cons_succ,List.getElem_toArray,List.getElem_cons_zero,List.getElem_cons_succ]
 refine rd1 2 (fun K hK=>?_);go_simp
 (refine (fY p.si hsi _ ((HLA.below (by omega) HBL6.out).later HB7.out)).mono ?_;rintro e w8 ⟨⟨x8,rfl⟩,hbn⟩;have HB8:=aa (ab HB7.out hbn);clear hbn)
 refine so hK ((HK6.later HB8.out).cell 8) (fun hHeld=>?_);clear hK K;have HBL8:=aa (HBL6.trans (HB8.mono HS6.out));have HC8:=aa (HC6.later HB8.out);have HK8:=aa (HK6.later HB8.out);refine wpAnyH_ready (rs:=[5]) (by kernel_rfl) (by simp) ?_;refine AllReadyH.cons rfl (fun K hK=>?_) AllReadyH.nil;go_simp;refine (aD x8 6 (p.si) (by decide) _).mono ?_;rintro e w' ⟨⟨hmb,rfl⟩ | ⟨hmb,pn,ps,rfl,hpn⟩,rfl⟩;rotate_left
 ·exact ⟨rfl,rfl,pn,ps,rfl,hpn,HBL8.out⟩
 refine so hK (HK8.cell 8) (fun hHeld=>?_);clear hK K;refine wpAnyH_done rfl (lW ?_) _;clear hmb;go_wp2_with fail
 refine lV 2 (.pointer (some ⟨z+1,0,none⟩)) [{ target:=.fn (.func 101) #[.pointer (some ⟨z+1,0,none⟩)],args:=#[] }] (CkR z w3) (fun ch a wx hd ht hR=>bj (cS (gr w w3 z p HB.out HZ.out HFB.out ch a wx hd ht hR))) ?_;refine wp_region_held_drew (S:=fun wk=>wk.cell? ⟨z,8,none⟩=some (.string p.si)) (by kernel_rfl) ((HK8.later (ac w8 _ 1)).cell 8) (fun hHeld=>?_);obtain ⟨w9,hw9⟩:∃wa,w8.drew=wa:=⟨_,rfl⟩;have hb9:Below w8.heap.size w8 w9:=hw9▸ac w8 w8.heap.size 1;rw [hw9] at hHeld ⊢;have HBL9:=aa (HBL8.trans (hb9.mono (Nat.le_trans HS3.out HBL8.size)));have HC9:=aa (HC8.later hb9);have HK9:=aa (HK8.later hb9);clear hw9 hb9;refine wpAnyH_take (i:=0) (v:=?_) rfl (by kernel_rfl) (by kernel_rfl) (by kernel_rfl) (fun _ _ _ h=>dx (by first | decide | simp) h) (Or.inl ⟨by rfl,?_⟩) (by assumption) ?_;rotate_left
 ·intro w hSw
  (try dsimp only at hSw)
  go_simp;try with_reducible rfl
 try simp only [Act.put,List.setIfInBounds_toArray,List.set_cons_zero,List.set_cons_succ,List.getElem_toArray,List.getElem_cons_zero,List.getElem_cons_succ]
 refine wpAnyH_take (i:=1) (v:=?_) rfl (by kernel_rfl) (by kernel_rfl) (by kernel_rfl) (fun _ _ _ h=>dx (by first | decide | simp) h) (Or.inl ⟨by rfl,?_⟩) (by assumption) ?_;rotate_left
 ·intro w hSw
  (try dsimp only at hSw)
  go_simp;try with_reducible rfl
 try simp only [Act.put,List.setIfInBounds_toArray,List.set_cons_zero,List.set_cons_succ,List.getElem_toArray,List.getElem_cons_zero,List.getElem_cons_succ]
 refine wpAnyH_take (i:=5) (v:=?_) rfl (by kernel_rfl) (by kernel_rfl) (by kernel_rfl) (fun _ _ _ h=>dx (by first | decide | simp) h) (Or.inl ⟨by rfl,?_⟩) (by assumption) ?_;rotate_left
 ·intro w hSw
  (try dsimp only at hSw)
  go_simp;try with_reducible rfl
 try simp only [Act.put,List.setIfInBounds_toArray,List.set_cons_zero,List.set_cons_succ,List.getElem_toArray,List.getElem_cons_zero,List.getElem_cons_succ]
 refine wpAnyH_take (i:=2) (v:=?_) rfl (by kernel_rfl) (by kernel_rfl) (by kernel_rfl) (fun _ _ _ h=>dx (by first | decide | simp) h) (Or.inl ⟨by rfl,?_⟩) (by assumption) ?_;rotate_left
 ·intro w hSw;have hcell:=hSw;clear hSw;go_simp;try with_reducible rfl
 try simp only [Act.put,List.setIfInBounds_toArray,List.set_cons_zero,List.set_cons_succ,List.getElem_toArray,List.getElem_cons_zero,List.getElem_cons_succ]
 refine wpAnyH_take (i:=6) (v:=?_) rfl (by kernel_rfl) (by kernel_rfl) (by kernel_rfl) (fun _ _ _ h=>dx (by first | decide | simp) h) (Or.inl ⟨by rfl,?_⟩) (by assumption) ?_;rotate_left
 ·intro w hSw;have hcell:=hSw;clear hSw;go_simp;try with_reducible rfl
 try simp only [Act.put,List.setIfInBounds_toArray,List.set_cons_zero,List.set_cons_succ,List.getElem_toArray,List.getElem_cons_zero,List.getElem_cons_succ]
 refine rd1 3 (fun K hK=>?_);go_simp
 (refine (eZ w9 (z+2) (z+3) (z+2) _ HC9.out p.si hsi).mono ?_;rintro e wa ⟨⟨x9,rfl⟩,rfl⟩)
 refine so hK (HK9.cell 8) (fun hHeld=>?_);clear hK K;refine wpAnyH_take (i:=4) (v:=?_) rfl (by kernel_rfl) (by kernel_rfl) (by kernel_rfl) (fun _ _ _ h=>dx (by first | decide | simp) h) (Or.inl ⟨by rfl,?_⟩) (by assumption) ?_;rotate_left
 ·intro w hSw
  (try dsimp only at hSw)
  go_simp;try with_reducible rfl
 try simp only [Act.put,List.setIfInBounds_toArray,List.set_cons_zero,List.set_cons_succ,List.getElem_toArray,List.getElem_cons_zero,List.getElem_cons_succ]
 refine wpAnyH_ready (rs:=[7]) (by kernel_rfl) (by simp) ?_;refine AllReadyH.cons rfl (fun K hK=>?_) AllReadyH.nil;go_simp;refine (aD _ 7 (p.si) (by decide) _).mono ?_;rintro e w' ⟨⟨hmb,rfl⟩ | ⟨hmb,pn,ps,rfl,hpn⟩,rfl⟩;rotate_left
 ·exact ⟨rfl,rfl,pn,ps,rfl,hpn,HBL9.out⟩
 refine so hK (HK9.cell 8) (fun hHeld=>?_);clear hK K;refine wpAnyH_done rfl (lW ?_) _;clear hmb;go_wp2_with fail
 refine lV 2 (.pointer (some ⟨z+1,0,none⟩)) [{ target:=.fn (.func 101) #[.pointer (some ⟨z+1,0,none⟩)],args:=#[] }] (CkR z w3) (fun ch a wx hd ht hR=>bj (cS (gr w w3 z p HB.out HZ.out HFB.out ch a wx hd ht hR))) ?_;refine wp_region_held_drew (S:=fun wk=>Bk wk z 66 (pgC p)) (by kernel_rfl) (HK9.later (ac w9 _ 1)) (fun hHeld=>?_);obtain ⟨wa,hwa⟩:∃wa,w9.drew=wa:=⟨_,rfl⟩;have hba:Below w9.heap.size w9 wa:=hwa▸ac w9 w9.heap.size 1;rw [hwa] at hHeld ⊢;have HBLa:=aa (HBL9.trans (hba.mono (Nat.le_trans HS3.out HBL9.size)));have HCa:=aa (HC9.later hba);have HKa:=aa (HK9.later hba);clear hwa hba;refine wpAnyH_take (i:=0) (v:=.agg (List.toArray (pgC p))) rfl (by kernel_rfl) (by kernel_rfl) (by kernel_rfl) (fun _ _ _ h=>dx (by first | decide | simp) h) (yieldsIf_load_mid (by rfl) _ _ rfl _ _ rfl (pgC p) _ (fun w hSw=>(Bk.range (pre:=[]) (post:=[]) (by simpa using hSw) rfl)) Tryz.underlying66 rfl ((db p))) (by assumption) ?_;try simp only [Act.put,List.setIfInBounds_toArray,List.set_cons_zero,List.set_cons_succ,List.getElem_toArray,List.getElem_cons_zero,List.getElem_cons_succ]
 refine wpAnyH_take (i:=3) (v:=?_) rfl (by kernel_rfl) (by kernel_rfl) (by kernel_rfl) (fun _ _ _ h=>dx (by first | decide | simp) h) (Or.inl ⟨by rfl,?_⟩) (by assumption) ?_;rotate_left
 ·intro w hSw
  (try dsimp only at hSw)
  go_simp;try with_reducible rfl
 try simp only [Act.put,List.setIfInBounds_toArray,List.set_cons_zero,List.set_cons_succ,List.getElem_toArray,List.getElem_cons_zero,List.getElem_cons_succ]
 refine wpAnyH_take (i:=4) (v:=?_) rfl (by kernel_rfl) (by kernel_rfl) (by kernel_rfl) (fun _ _ _ h=>dx (by first | decide | simp) h) (Or.inl ⟨by rfl,?_⟩) (by assumption) ?_;rotate_left
 ·intro w hSw;have hcell:=(show w.cell? ⟨z,0,none⟩=some (.string p.nm) from hSw.cell 0);clear hSw;go_simp;try with_reducible rfl
 try simp only [Act.put,List.setIfInBounds_toArray,List.set_cons_zero,List.set_cons_succ,List.getElem_toArray,List.getElem_cons_zero,List.getElem_cons_succ]
 refine rd1 1 (fun K hK=>?_);go_simp
 (refine (nz wa p ((HPG.below HBLa.out).more (Nat.le_trans HS3.out HBLa.size))).mono ?_;rintro e wb ⟨rfl,hbn⟩;have HBLb:=aa (HBLa.trans (hbn.mono (Nat.le_trans HS3.out HBLa.size)));have HCb:=aa (HCa.later hbn);have HKb:=aa (HKa.later hbn);clear hbn)
 refine so hK (HKb.out) (fun hHeld=>?_);clear hK K;refine wpAnyH_take (i:=2) (v:=?_) rfl (by kernel_rfl) (by kernel_rfl) (by kernel_rfl) (fun _ _ _ h=>dx (by first | decide | simp) h) (Or.inl ⟨by rfl,?_⟩) (by assumption) ?_;rotate_left
 ·intro w hSw
  (try dsimp only at hSw)
  go_simp;try with_reducible rfl
 try simp only [Act.put,List.setIfInBounds_toArray,List.set_cons_zero,List.set_cons_succ,List.getElem_toArray,List.getElem_cons_zero,List.getElem_cons_succ]
 refine wpAnyH_ready (rs:=[5]) (by kernel_rfl) (by simp) ?_;refine AllReadyH.cons rfl (fun K hK=>?_) AllReadyH.nil;go_simp;refine (aD _ 5 (p.nm) (by decide) _).mono ?_;rintro e w' ⟨⟨hmb,rfl⟩ | ⟨hmb,pn,ps,rfl,hpn⟩,rfl⟩;rotate_left
 ·exact ⟨rfl,rfl,pn,ps,rfl,hpn,HBLb.out⟩
 refine so hK (HKb.out) (fun hHeld=>?_);clear hK K;refine wpAnyH_done rfl (lW ?_) _;clear hmb;go_wp2_with (with_reducible refine aj rfl 66 _ rfl z rfl (pgC p) 66 HKb.out _ Tryz.underlying66 rfl (db p) ?_)
 refine (rm wb (z+2) (z+3) (z+2) _ HCb.out p (HPG.below HBLb.out) (HLA.below (by omega) HBLb.out) (by omega) (Nat.le_trans HS3.out HBLb.size) (by have:=HN2v.out;omega)).mono ?_;rintro e wc ⟨⟨rfl,hV⟩ | ⟨pn,ps,rfl,hpn⟩,hkp,hck⟩;rotate_left
 ·
  exact cS (gr w w3 z p HB.out HZ.out HFB.out _ _ _ rfl rfl ⟨pn,ps,rfl,hpn,(HBLb.trans (hkp.below (by omega) (Nat.le_refl _) (Nat.le_trans HS3.out HBLb.size)))⟩)
 have HBLc:=aa (HBLb.trans (hkp.below (by omega) (Nat.le_refl _) (Nat.le_trans HS3.out HBLb.size)));have HGP:=aa hV;have HKc:=aa (HK.under HBLc.out (by omega));have HSc:=aa (Nat.le_trans HS3.out HBLc.size);clear hkp hck hV;have d5:wc.cell? ⟨z,5,none⟩=some (.slice p.tu.A p.tu.N p.tu.C):=HKc.cell 5;go_wp2_with fail
 refine (vM p.tuL wc p.tu.A p.tu.N p.tu.C ((HPG.below HBLc.out).tu.more HSc.out) HTU.out).mono ?_;rintro e wd ⟨⟨xd,rfl⟩,hbn⟩;have HBLd:=aa (HBLc.trans (hbn.mono HSc.out));have HKd:=aa (HKc.later hbn);clear hbn d5;go_wp2_with fail
 refine (aD _ _ _ (by decide) _).mono ?_;rintro e w' ⟨⟨hmb,rfl⟩ | ⟨hmb,pn,ps,rfl,hpn⟩,rfl⟩;rotate_left
 ·
  exact cS (gr w w3 z p HB.out HZ.out HFB.out _ _ _ rfl rfl ⟨pn,ps,rfl,hpn,HBLd.out⟩)
 clear hmb;have d10:wd.cell? ⟨z,10,none⟩=some (.slice p.py.A p.py.N p.py.C):=HKd.cell 10;have hfin:Hid (Bk wd (z+1) 110 [.int .i64 0,.string ⟨#[]⟩]):=HFB.under HBLd.out (by omega);by_cases hn:p.py.N=0
 ·rw [hn] at d10;go_wp2_with fail
  refine (aD _ _ _ (by decide) _).mono ?_;rintro e w' ⟨⟨hmb,rfl⟩ | ⟨hmb,pn,ps,rfl,hpn⟩,rfl⟩;rotate_left
  ·
   exact cS (gr w w3 z p HB.out HZ.out HFB.out _ _ _ rfl rfl ⟨pn,ps,rfl,hpn,HBLd.out⟩)
  cases hmb
 ·obtain ⟨k,hk⟩:∃k,p.py.N=k+1:=⟨p.py.N - 1,by omega⟩;obtain ⟨b,o,kd,nm,A',N',C',E,l,hh,A1,N1,C1,L,A2,N2,C2,M,rest,hA,_,hr,_⟩:=((HPG.below HBLd.out).py).spot (k:=k) (by omega);have dr:wd.cell? ⟨b,o+k*7,none⟩=some (.int .i64 kd):=by have:=hr 0 _ rfl;simpa using this
  rw [hA,hk] at d10;clear hA hr;have hwr:wrap64 (((k:Int)+1) - 1)=k:=by rw [show ((k:Int)+1) - 1=k by omega];exact IntWalk.wrap64_in _ (by omega)
  go_wp2_with fail
  refine (aD _ _ _ (by decide) _).mono ?_;rintro e w' ⟨⟨hmb,rfl⟩ | ⟨hmb,pn,ps,rfl,hpn⟩,rfl⟩;rotate_left
  ·
   exact cS (gr w w3 z p HB.out HZ.out HFB.out _ _ _ rfl rfl ⟨pn,ps,rfl,hpn,HBLd.out⟩)
  clear hmb hwr dr d10;go_wp2_with (first | ((with_reducible refine aS rfl 110 _ rfl #[] ?_ _ (pX _) ?_);focus (simp [Act.eval,Act.put];done)) | (with_reducible refine ah 110 _ _ rfl ?_))
  refine ak.go ?_;refine ae rfl 110 _ _ rfl (z+1) 0 (.agg #[.int .i64 0,.string ⟨#[]⟩]) [.int .i64 0,.string ⟨#[]⟩] rfl rfl rfl 110 [] [.int .i64 0,.string ⟨#[]⟩] [] (by simpa using hfin.out) rfl rfl (gV _ _) (by intro v hv;simp at hv;rcases hv with rfl | rfl <;> rfl) ?_;intro we hp;have hbk:Bk we (z+1) 110 [.int .i64 0,.string ⟨#[]⟩]:=by have:=hp.bk;simpa using this
  have HBK:=aa hbk;have HBe:Hid (Below w.heap.size w we):=ag (HB.trans (HBLd.mono (by have:=HZ.out;omega))) hp.only (by have:=(HB.trans (HBLd.mono (show w.heap.size≤z+2 by have:=HZ.out;omega))).size;omega) (by have:=HZ.out;omega);clear hp hbk;go_wp2_with fail
  refine leaves_cons (f:=101) (args:=#[.pointer (some ⟨z+1,0,none⟩)]) (by simp) (by simp [go_sem]) ?_;refine (pW (z+1) _).mono ?_;rintro e9 u9 w9 ⟨rfl,rfl,rfl⟩;exact ⟨_,am rfl _ _ (z+1) 110 _ _ rfl HBK.out Tryz.underlying110 rfl (gV _ _),⟨0,⟨#[]⟩,rfl,fun _=>⟨HV.out,HPA.out,HGP.out⟩⟩,HBe.out⟩
section
variable {H:Type} {P:Program} {w:World} {ops:Array Oper} {rest:List Oper} {o:Oper} {a:Act} {Q:Exit→Act→World→Prop}
theorem eQ (hg:o.guard=none) (m x v:Operand) (t:TypeId) (hop:o.op=Op.insert t m x v) (k e:TypeId) (K:Keyed P k) (ht:P.underlying t=some (.map k e)) (R:Value→Option (DataW H × List MemPlace)) (b n:Nat) (D:DataW H) (hm:a.eval m=.map (some b)) (hown:w.ownsMap P k R b n D) (hn:n < maxLen) (key val:Value) (kl:Lit) (hx:a.eval x=key) (hv:a.eval v=val) (hkey:keyOf P k key=some kl) (d:DataW H) (ps:List MemPlace) (hval:R val=some (d,ps)) (hK:∀w',w'.ownsMap P k R b (n+1) (D.put kl d)→w.mapTurned w' b→wpList P ops Q rest (a.put o.dst undef) w'):wpList P ops Q (o :: rest) a w:=by refine wpList_plain hg fun K' hK'=>?_;obtain ⟨w',hrun,r1,r2⟩:=hown.store K ht hn hkey hval;unfold Oper.wp;simp [execOp,hop,hm,hx,hv,hrun,Result.andThen];exact hK' _ _ (hK w' r1 r2)
end
open Classical in
noncomputable def shapeR (p:Value→Prop):Value→Option (DataW Unit × List MemPlace):=fun v=>if p v then some (.lit (.bool true),[]) else none
theorem nr {p:Value→Prop} {v:Value} (h:p v):shapeR p v=some (.lit (.bool true),[]):=by unfold shapeR;rw [if_pos h]
theorem ro {p:Value→Prop} {v:Value} {z:DataW Unit × List MemPlace} (h:shapeR p v=some z):p v:=by
 unfold shapeR at h;by_cases hp:p v
 ·exact hp
 ·rw [if_neg hp] at h;cases h
def gd (p:Value→Prop) (w:World) (b n:Nat):Prop:=∃D:DataW Unit,w.ownsMap Tryz.prog 3 (shapeR p) b n D
theorem gd.kept {p:Value→Prop} {w w' : World} {b n:Nat} {row:Option Nat} (h:gd p w b n) (hg:w.grownBy w' row) (hne:some b≠row):gd p w' b n:=by obtain ⟨D,h⟩:=h;exact ⟨D,h.kept hg hne⟩
theorem gd.later {p:Value→Prop} {w w' : World} {b n:Nat} (h:gd p w b n) (hb:Below w.heap.size w w'):gd p w' b n:=h.kept (av hb) (by simp)
theorem gd.lt {p:Value→Prop} {w:World} {b n:Nat} (h:gd p w b n):b < w.heap.size:=by obtain ⟨D,h⟩:=h;exact h.lt
theorem gd.ne {p:Value→Prop} {w:World} {b n g:Nat} {T:TypeId} {cs:List Value} (h:gd p w b n) (hk:Bk w g T cs):g≠b:=by obtain ⟨D,h⟩:=h;exact dp hk h
theorem fZ {x:Int} (h : -9223372036854775808≤x∧x < 9223372036854775808):(Lit.int .i64 x).wf=true:=by
 have h1:IntKind.i64.min= -9223372036854775808:=by decide
 have h2:IntKind.i64.max=9223372036854775807:=by decide
 simp only [Lit.wf,h1,h2,Bool.and_eq_true,decide_eq_true_eq];omega
theorem gd.look {p:Value→Prop} {w:World} {b n:Nat} (h:gd p w b n) {T E:TypeId} (hT:Tryz.prog.underlying T=some (.map 3 E)) {z:Value} (hz:(zeroValue E).run Tryz.prog w=.ok z w) (hp:p z) {q:Int} (hq : -9223372036854775808≤q∧q < 9223372036854775808):∃v x,(Instr.lookup T (.map (some b)) (.int .i64 q) true).run Tryz.prog w=.ok (.tuple #[v,.bool x]) w∧p v:=by obtain ⟨D,h⟩:=h;obtain ⟨v,ps,hrun,hv⟩:=h.look_ok (int_keyed Tryz.underlying3) hT hz (nr hp) (keyOf_int_mk Tryz.underlying3 (fZ hq));exact ⟨v,_,hrun,ro hv⟩
section
variable {w:World} {ops:Array Oper} {rest:List Oper} {o:Oper} {a:Act} {Q:Exit→Act→World→Prop}
theorem cy (p:Value→Prop) {T E:TypeId} (hT:Tryz.prog.underlying T=some (.map 3 E)) (hg:o.guard=none) (m x v:Operand) (hop:o.op=Op.insert T m x v) (b n:Nat) (hm:a.eval m=.map (some b)) (q:Int) (val:Value) (hx:a.eval x=.int .i64 q) (hv:a.eval v=val) (hq : -9223372036854775808≤q∧q < 9223372036854775808) (hp:p val) (h:gd p w b n) (hn:n < 1000) (hK:∀w',gd p w' b (n+1)→w.grownBy w' (some b)→ak (wpList Tryz.prog ops Q rest (a.put o.dst undef) w')):wpList Tryz.prog ops Q (o :: rest) a w:=by obtain ⟨D,h⟩:=h;exact eQ hg m x v T hop 3 E (int_keyed Tryz.underlying3) hT (shapeR p) b n D hm h (by unfold maxLen;omega) _ val _ hx hv (keyOf_int_mk Tryz.underlying3 (fZ hq)) _ [] (nr hp) fun w' h1 h2=>hK w' ⟨_,h1⟩ h2.grown
end
def eA (v:Value):Prop:=∃(n:Int) (b:Bool),v=.agg #[.int .i64 n,.bool b]
theorem gW (n:Int) (b:Bool) (w:World):(Instr.build 277 #[(0,.int .i64 n),(1,.bool b)]).run Tryz.prog w=.ok (.agg #[.int .i64 n,.bool b]) w:=by kernel_rfl
def vP (w0:World) (e:Ending) (w:World):Prop:=∃b,e=.returned (.map (some b))∧gd eA w b 10∧w0.heap.size≤b
theorem gd.more {p:Value→Prop} {w:World} {b n n' : Nat} (h:gd p w b n) (hn:n≤n'):gd p w b n':=by obtain ⟨D,es,clock,h1,h2,h3,h4⟩:=h;exact ⟨D,es,clock,h1,h2,Nat.le_trans h3 hn,h4⟩
set_option maxRecDepth 20000 in
theorem rp (w:World):Calls Tryz.prog 168 #[] w fun e w'=>vP w e w'∧Below w.heap.size w w':=by
 have hbc:=gW;obtain ⟨z,hz⟩:∃z,w.heap.size=z:=⟨_,rfl⟩;obtain ⟨w0,hw0⟩:∃w0,w.alloc (.map #[] 0)=w0:=⟨_,rfl⟩;have hmm:=run_makeMap (P:=Tryz.prog) 188 w;rw [hw0,hz] at hmm;have HM0:Hid (gd eA w0 z 0):=⟨.map [],by rw [←hw0,←hz];exact World.ownsMap_made w _ _ _⟩;have HB0:Hid (Below w.heap.size w w0):=hw0▸ai w _;have HZ:=aa hz;clear hw0 hz;go_enter Tryz.func168,Tryz.ntmps168;go_wp2_with (refine cy eA Tryz.underlying188 rfl _ _ _ rfl z 0 rfl _ _ rfl rfl (by decide) ⟨_,_,rfl⟩ HM0.out (by decide) ?_;intro w1 hm9 hg9;have HM1:=aa hm9;have HB1:=aa (ag HB0.out hg9 HB0.size (by have:=HZ.out;omega));clear hm9 hg9)
 refine ak.go ?_;go_wp2_with (refine cy eA Tryz.underlying188 rfl _ _ _ rfl z 1 rfl _ _ rfl rfl (by decide) ⟨_,_,rfl⟩ HM1.out (by decide) ?_;intro w2 hm9 hg9;have HM2:=aa hm9;have HB2:=aa (ag HB1.out hg9 HB1.size (by have:=HZ.out;omega));clear hm9 hg9)
 refine ak.go ?_;go_wp2_with (refine cy eA Tryz.underlying188 rfl _ _ _ rfl z 2 rfl _ _ rfl rfl (by decide) ⟨_,_,rfl⟩ HM2.out (by decide) ?_;intro w3 hm9 hg9;have HM3:=aa hm9;have HB3:=aa (ag HB2.out hg9 HB2.size (by have:=HZ.out;omega));clear hm9 hg9)
 refine ak.go ?_;go_wp2_with fail
 go_ret;exact ⟨⟨z,rfl,HM3.more (by decide),Nat.le_of_eq HZ.out⟩,HB3.out⟩
set_option maxRecDepth 20000 in
theorem rq (w:World):Calls Tryz.prog 169 #[] w fun e w'=>vP w e w'∧Below w.heap.size w w':=by
 have hbc:=gW;obtain ⟨z,hz⟩:∃z,w.heap.size=z:=⟨_,rfl⟩;obtain ⟨w0,hw0⟩:∃w0,w.alloc (.map #[] 0)=w0:=⟨_,rfl⟩;have hmm:=run_makeMap (P:=Tryz.prog) 188 w;rw [hw0,hz] at hmm;have HM0:Hid (gd eA w0 z 0):=⟨.map [],by rw [←hw0,←hz];exact World.ownsMap_made w _ _ _⟩;have HB0:Hid (Below w.heap.size w w0):=hw0▸ai w _;have HZ:=aa hz;clear hw0 hz;go_enter Tryz.func169,Tryz.ntmps169;go_wp2_with (refine cy eA Tryz.underlying188 rfl _ _ _ rfl z 0 rfl _ _ rfl rfl (by decide) ⟨_,_,rfl⟩ HM0.out (by decide) ?_;intro w1 hm9 hg9;have HM1:=aa hm9;have HB1:=aa (ag HB0.out hg9 HB0.size (by have:=HZ.out;omega));clear hm9 hg9)
 refine ak.go ?_;go_wp2_with (refine cy eA Tryz.underlying188 rfl _ _ _ rfl z 1 rfl _ _ rfl rfl (by decide) ⟨_,_,rfl⟩ HM1.out (by decide) ?_;intro w2 hm9 hg9;have HM2:=aa hm9;have HB2:=aa (ag HB1.out hg9 HB1.size (by have:=HZ.out;omega));clear hm9 hg9)
 refine ak.go ?_;go_wp2_with (refine cy eA Tryz.underlying188 rfl _ _ _ rfl z 2 rfl _ _ rfl rfl (by decide) ⟨_,_,rfl⟩ HM2.out (by decide) ?_;intro w3 hm9 hg9;have HM3:=aa hm9;have HB3:=aa (ag HB2.out hg9 HB2.size (by have:=HZ.out;omega));clear hm9 hg9)
 refine ak.go ?_;go_wp2_with (refine cy eA Tryz.underlying188 rfl _ _ _ rfl z 3 rfl _ _ rfl rfl (by decide) ⟨_,_,rfl⟩ HM3.out (by decide) ?_;intro w4 hm9 hg9;have HM4:=aa hm9;have HB4:=aa (ag HB3.out hg9 HB3.size (by have:=HZ.out;omega));clear hm9 hg9)
 refine ak.go ?_;go_wp2_with (refine cy eA Tryz.underlying188 rfl _ _ _ rfl z 4 rfl _ _ rfl rfl (by decide) ⟨_,_,rfl⟩ HM4.out (by decide) ?_;intro w5 hm9 hg9;have HM5:=aa hm9;have HB5:=aa (ag HB4.out hg9 HB4.size (by have:=HZ.out;omega));clear hm9 hg9)
 refine ak.go ?_;go_wp2_with (refine cy eA Tryz.underlying188 rfl _ _ _ rfl z 5 rfl _ _ rfl rfl (by decide) ⟨_,_,rfl⟩ HM5.out (by decide) ?_;intro w6 hm9 hg9;have HM6:=aa hm9;have HB6:=aa (ag HB5.out hg9 HB5.size (by have:=HZ.out;omega));clear hm9 hg9)
 refine ak.go ?_;go_wp2_with (refine cy eA Tryz.underlying188 rfl _ _ _ rfl z 6 rfl _ _ rfl rfl (by decide) ⟨_,_,rfl⟩ HM6.out (by decide) ?_;intro w7 hm9 hg9;have HM7:=aa hm9;have HB7:=aa (ag HB6.out hg9 HB6.size (by have:=HZ.out;omega));clear hm9 hg9)
 refine ak.go ?_;go_wp2_with (refine cy eA Tryz.underlying188 rfl _ _ _ rfl z 7 rfl _ _ rfl rfl (by decide) ⟨_,_,rfl⟩ HM7.out (by decide) ?_;intro w8 hm9 hg9;have HM8:=aa hm9;have HB8:=aa (ag HB7.out hg9 HB7.size (by have:=HZ.out;omega));clear hm9 hg9)
 refine ak.go ?_;go_wp2_with (refine cy eA Tryz.underlying188 rfl _ _ _ rfl z 8 rfl _ _ rfl rfl (by decide) ⟨_,_,rfl⟩ HM8.out (by decide) ?_;intro w9 hm9 hg9;have HM9:=aa hm9;have HB9:=aa (ag HB8.out hg9 HB8.size (by have:=HZ.out;omega));clear hm9 hg9)
 refine ak.go ?_;go_wp2_with (refine cy eA Tryz.underlying188 rfl _ _ _ rfl z 9 rfl _ _ rfl rfl (by decide) ⟨_,_,rfl⟩ HM9.out (by decide) ?_;intro w10 hm9 hg9;have HM10:=aa hm9;have HB10:=aa (ag HB9.out hg9 HB9.size (by have:=HZ.out;omega));clear hm9 hg9)
 refine ak.go ?_;go_wp2_with fail
 go_ret;exact ⟨⟨z,rfl,HM10.out,Nat.le_of_eq HZ.out⟩,HB10.out⟩
def ctC (m1 m2:Nat):List Value:=[.map (some m1),.map (some m2)]
def j8 (w:World) (m1 m2:Nat):Prop:=gd eA w m1 10∧gd eA w m2 10
theorem j8.later {w w' : World} {m1 m2:Nat} (h:j8 w m1 m2) (hb:Below w.heap.size w w'):j8 w' m1 m2:=⟨h.1.later hb,h.2.later hb⟩
theorem j8.grown {w w' : World} {m1 m2 b:Nat} {T:TypeId} {cs:List Value} (h:j8 w m1 m2) (hk:Bk w b T cs) (hg:w.grownBy w' (some b)):j8 w' m1 m2:=
 ⟨h.1.kept hg (fun e=>by injection e with e;exact h.1.ne hk e.symm),h.2.kept hg (fun e=>by injection e with e;exact h.2.ne hk e.symm)⟩
theorem cj (m1 m2:Nat):(Tryz.prog.info? 190).map (·.size)=some (ctC m1 m2).length:=by kernel_rfl
theorem vQ (m1 m2:Nat):∀v∈ctC m1 m2,v.oneCell'=true:=by intro v hv;simp only [ctC,List.mem_cons,List.not_mem_nil,or_false] at hv;rcases hv with rfl | rfl <;> rfl
theorem vR (m1 m2:Nat) (w:World):(Instr.build 190 #[(0,.map (some m1)),(1,.map (some m2))]).run Tryz.prog w=.ok (.agg (ctC m1 m2).toArray) w:=by kernel_rfl
def AJ (e:Ending) (w:World):Prop:=∃m1 m2,e=.returned (.agg (ctC m1 m2).toArray)∧j8 w m1 m2
set_option maxRecDepth 20000 in
theorem rr (w:World):Calls Tryz.prog 111 #[] w fun e w'=>AJ e w'∧Below w.heap.size w w':=by
 obtain ⟨z,hz⟩:∃z,w.heap.size=z:=⟨_,rfl⟩;obtain ⟨w1,hw1⟩:∃w1,w.alloc (.cells #[.map none,.map none] 190)=w1:=⟨_,rfl⟩;have hk:Bk w1 z 190 [.map none,.map none]:=hw1▸Bk.at_ w _ _ hz rfl;have hb:Below w.heap.size w w1:=hw1▸ai w _;have HW:=aa hw1;have HB:=aa hb;have HZ:=aa hz;have HK:=aa hk;clear hk hw1 hz hb;go_enter Tryz.func111,Tryz.ntmps111;go_upto_region 1 with fail
 rw [HW.out,HZ.out];go_wp2_with fail
 refine (rp w1).mono ?_;rintro e w2 ⟨⟨m1,rfl,hm1,_⟩,hb2⟩;have HM1:=aa hm1;have HB2:=aa hb2;clear hm1 hb2;go_wp2_with fail
 refine (rq w2).mono ?_;rintro e w3 ⟨⟨m2,rfl,hm2,_⟩,hb3⟩;have HM2:=aa hm2;have HM13:=aa (HM1.later hb3);have HB3:=aa (ab HB2.out hb3);have HK3:=aa (HK.later (ab HB2.out hb3));clear hm2 hb3;go_wp2_with (first | ((with_reducible refine aS rfl 190 _ rfl #[(0,.map (some m1)),(1,.map (some m2))] ?_ _ (vR m1 m2 _) ?_);focus (simp [Act.eval,Act.put];done)) | (with_reducible refine ah 190 _ _ rfl ?_))
 refine ak.go ?_;refine ae rfl 190 _ _ rfl z 0 (.agg (ctC m1 m2).toArray) (ctC m1 m2) rfl rfl rfl 190 [] [.map none,.map none] [] (by simpa using HK3.out) rfl rfl (cj _ _) (vQ _ _) ?_;intro w4 hp;have hbk:Bk w4 z 190 (ctC m1 m2):=by have:=hp.bk;simpa using this
 have HBK:=aa hbk;have HCT:Hid (j8 w4 m1 m2):=(show j8 w3 m1 m2 from ⟨HM13.out,HM2.out⟩).grown HK3.out hp.only;have HB4:Hid (Below w.heap.size w w4):=ag (ab HB.out HB3.out) hp.only (ab HB.out HB3.out).size (by have:=HZ.out;omega);clear hp hbk;go_wp2_with fail
 refine bodyPost_ret (am rfl _ _ z 190 (ctC m1 m2) _ rfl HBK.out Tryz.underlying190 rfl (cj _ _)) rfl ?_;exact ⟨⟨m1,m2,rfl,HCT.out⟩,HB4.out⟩
def kL (b:Nat):Value:=.func (.func 170) #[] #[.pointer (some ⟨b,0,none⟩)]
theorem dW (n:Int) (w:World):Calls Tryz.prog 112 #[.int .i64 n] w fun e w'=>(∃b,e=.returned (kL b)∧Bk w' b 3 [.int .i64 n]∧w.heap.size≤b)∧Below w.heap.size w w':=by
 have hmf:∀(fn:Fn) (first cap:Array Value) (w:World),(Instr.makeFunc fn first cap).run Tryz.prog w=.ok (.func fn first cap) w:=fun _ _ _ _=>rfl;obtain ⟨z,hz⟩:∃z,w.heap.size=z:=⟨_,rfl⟩;obtain ⟨w1,hw1⟩:∃w1,w.alloc (.cells #[.int .i64 n] 3)=w1:=⟨_,rfl⟩;have hk:Bk w1 z 3 [.int .i64 n]:=hw1▸Bk.at_ w _ _ hz rfl;have hb:Below w.heap.size w w1:=hw1▸ai w _;have HW:=aa hw1;have HB:=aa hb;have HZ:=aa hz;have HK:=aa hk;clear hk hw1 hz hb;go_enter Tryz.func112,Tryz.ntmps112;go_upto_region 1 with fail
 rw [HW.out,HZ.out];go_wp2_with fail
 go_ret;exact ⟨⟨z,rfl,HK.out,Nat.le_of_eq HZ.out⟩,HB.out⟩
theorem bd (w:World) (b:Nat) (n x:Int) (h:Bk w b 3 [.int .i64 n]):Calls Tryz.prog 170 #[.int .i64 x,.pointer (some ⟨b,0,none⟩)] w fun e w'=>(∃n' : Int,e=.returned (.int .i64 n')∧Bk w' b 3 [.int .i64 n'])∧w.grownBy w' (some b):=by
 have HK:=aa h;have c0:w.cell? ⟨b,0,none⟩=some (.int .i64 n):=h.cell 0;clear h;go_enter Tryz.func170,Tryz.ntmps170;go_wp2_with (with_reducible refine ah 3 _ _ rfl ?_)
 refine ak.go ?_;refine ae rfl 3 _ _ rfl b 0 (.int .i64 _) [.int .i64 _] rfl rfl rfl 3 [] [.int .i64 n] [] (by simpa using HK.out) rfl rfl (by kernel_rfl) (by intro x hx;simp at hx;subst hx;rfl) ?_;intro w4 hp;have hbk:=hp.bk;simp only [List.nil_append,List.append_nil] at hbk;have HBK:=aa hbk;have HG:=aa hp.only;have c4:=hbk.cell 0;simp only [List.getElem?_cons_zero] at c4;clear hbk hp c0;go_wp2_with fail
 go_ret;exact ⟨⟨_,rfl,HBK.out⟩,HG.out⟩
theorem dH (b:Nat) (x:Int) (w:World):(callFunc 170 #[.int .i64 x,.pointer (some ⟨b,0,none⟩)]).run Tryz.prog w=.ok (.enter 170 #[.int .i64 x,.pointer (some ⟨b,0,none⟩)]) w:=by kernel_rfl
end Go.Proofs.YtllbdpdnpaocnaaGreatDoor
