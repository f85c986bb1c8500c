/- Part of the proof of WholeStep. -/
import Derived.Test.YtllbdpdnpaocnaaGreatDoorZAJ
namespace Go.Proofs.YtllbdpdnpaocnaaGreatDoor
set_option linter.unusedSimpArgs false
set_option linter.unusedVariables false
set_option linter.constructorNameAsVariable false
open Go.RowKit Go.Maps
set_option maxRecDepth 20000 in
set_option maxHeartbeats 1000000 in
theorem tP (F:Ss) (ih:∀G:Ss,G.size < F.size→lY G):lY F:=by
 intro w m1 m2 A N C hct hF hsz;have hN2:N≤1048576:=by have:=hF.len;have:=Ss.len_size F;omega
 obtain ⟨z,hz⟩:∃z,w.heap.size=z:=⟨_,rfl⟩;obtain ⟨w1,hw1⟩:∃w1,w.alloc (.cells (ctC m1 m2).toArray 190)=w1:=⟨_,rfl⟩;have hk:Bk w1 z 190 (ctC m1 m2):=hw1▸Bk.at_ w _ _ hz rfl;have hb1:Below w.heap.size w w1:=hw1▸ai w _;have HW:=aa hw1;have HB:=aa hb1;have HZ:=aa hz;have HK:=aa hk;have HCT:=aa (hct.later hb1);have HF:=aa (hF.below hb1);have HIH:=aa ih;clear hk hw1 hz hb1 hct hF ih;go_enter Tryz.func113,Tryz.ntmps113;go_upto_region 1 with fail
 rw [HW.out,HZ.out];try go_step3
 go_wp2_with fail
 refine (dW 0 w1).mono ?_;rintro e w2 ⟨⟨sb,rfl,hsb,hlt⟩,hbn⟩;have HSB:=aa hsb;have HB2:=aa hbn;have HLT:=aa hlt;have hcs:=dH sb;unfold kL;clear hsb hbn hlt;go_wp2_with fail
 go_step3;go_wp2_with fail
 try (go_step3;go_wp2_with fail)
 go_loopw [7,11] (fun _ i wr=>∃(k:Nat) (q:Int),k≤N∧i=.int .i64 k∧Hid (Bk wr sb 3 [.int .i64 q])∧Hid (Below w1.heap.size w1 wr)) (fun _ i _=>N - (intOf i).toNat)
 case atStart=>exact ⟨0,0,Nat.zero_le _,rfl,HSB.out,HB2.out⟩
 case round=>
  obtain ⟨k,q,hk,rfl,hBq,hG⟩:=hrel;by_cases hlt:k < N
  ·obtain ⟨b,o,kd,nm,A',N',C',E,l,h,A1,N1,C1,L',A2,N2,C2,M',rest,hA,hb,hr,e1,e2,hst,hks⟩:=(HF.below (hG.out.mono HB.size)).spot hlt;subst hA;have HR:=aa hr;have HCC:Hid (∀wk,Below wr.heap.size wr wk→Calls Tryz.prog 171 #[.agg (ctC m1 m2).toArray,.agg (aR kd nm A' N' C' l h A1 N1 C1 A2 N2 C2).toArray] wk fun e w'=>il e∧Below wk.heap.size wk w'):=fun wk hwk=>by
    have hle:w.heap.size≤wr.heap.size:=Nat.le_trans HB.size hG.out.size;have hle2:=Nat.le_trans hle hwk.size;exact vV L' M' (HIH.out L' (by omega)) (HIH.out M' (by omega)) wk m1 m2 kd nm A' N' C' E l h A1 N1 C1 A2 N2 C2 ((HCT.later hG.out).later hwk)
     ⟨hst.kd,hst.lo,hst.hi,hst.nm,(hst.e.below (hwk.mono hle)).more hle2,(hst.l.below (hwk.mono hle)).more hle2,(hst.m.below (hwk.mono hle)).more hle2,hst.ec,hst.lc,hst.mc⟩ (by omega)
   clear hst hr e1 e2 hks;have HKr:=aa (HK.later hG.out);go_wp2_with (first | (with_reducible refine wpList_load_mid rfl 186 _ rfl b (o+k*7) rfl (aR kd nm A' N' C' l h A1 N1 C1 A2 N2 C2) _ HR.out Tryz.underlying186 rfl (bK _ _ _ _ _ _ _ _ _ _ _ _ _) ?_) | (with_reducible refine ah 186 _ _ rfl ?_))
   refine ak.go ?_;obtain ⟨g3,hg3⟩:∃q,wr.heap.size=q:=⟨_,rfl⟩;rw [hg3];refine an 186 _ _ rfl g3 hg3 (aR kd nm A' N' C' l h A1 N1 C1 A2 N2 C2) rfl rfl rfl rfl (bK _ _ _ _ _ _ _ _ _ _ _ _ _) (f4 _ _ _ _ _ _ _ _ _ _ _ _ _) ?_;intro w3 hk hbn;have HK3:=aa hk;have HB3:=aa hbn;clear hk hbn;have HKz:=aa (HKr.later HB3.out);go_wp2_with (first | (with_reducible refine aj rfl 186 _ rfl g3 rfl (aR kd nm A' N' C' l h A1 N1 C1 A2 N2 C2) 186 HK3.out _ Tryz.underlying186 rfl (bK _ _ _ _ _ _ _ _ _ _ _ _ _) ?_) | (with_reducible refine aj rfl 190 _ rfl z rfl (ctC m1 m2) 190 HKz.out _ Tryz.underlying190 rfl (cj _ _) ?_))
   refine (HCC.out _ HB3.out).mono ?_;rintro e w4 ⟨⟨v,rfl⟩,hbn⟩;have HB4:=aa (ab hG.out (ab HB3.out hbn));have HBq4:=aa (hBq.out.later (ab HB3.out hbn));clear hbn;go_wp2_with fail
   refine (bd w4 sb q v HBq4.out).mono ?_;rintro e w5 ⟨⟨q',rfl,hbq⟩,hg⟩;have HSB5:=aa hbq;have HBB5:=aa (ag HB4.out hg HB4.size HLT.out);clear hbq hg;by_cases hgt:65536 < q'
   ·go_wp2_with fail
    refine (bd w5 sb _ 0 HSB5.out).mono ?_;rintro e w9 ⟨⟨q9,rfl,hbq⟩,hg⟩;have HG9:=aa hg;clear hbq hg;go_wp2_with fail
    try rw [Exit.noGoto_ret]
    go_ret;exact ⟨⟨_,rfl⟩,ag (ab HB.out HBB5.out) HG9.out (Nat.le_trans HB.size HBB5.size) (Nat.le_trans HB.size HLT.out)⟩
   ·go_wp2_with fail
    go_roundw
    case rel=>exact ⟨k+1,q',by omega,by go_num,HSB5.out,HBB5.out⟩
    case measure=>simp [intOf];omega
  ·have HSBr:=hBq;have HBBr:=hG;go_wp2_with fail
   refine (bd wr sb _ 0 HSBr.out).mono ?_;rintro e w9 ⟨⟨q9,rfl,hbq⟩,hg⟩;have HG9:=aa hg;clear hbq hg;go_wp2_with fail
   try rw [Exit.noGoto_ret]
   go_ret;exact ⟨⟨_,rfl⟩,ag (ab HB.out HBBr.out) HG9.out (Nat.le_trans HB.size HBBr.size) (Nat.le_trans HB.size HLT.out)⟩
theorem f3 (F:Ss):lY F:=by
 obtain ⟨m,hm⟩:∃m,F.size=m:=⟨_,rfl⟩;induction m using Nat.strongRecOn generalizing F with
 | ind m ih=>exact tP F fun G hG=>ih G.size (by omega) G rfl
theorem bp {P:Program} {fn:Func} {q u:Tmp} {ty:TypeId} (h:fn.results= #[.cell q ty,.tmp u]) (tmps:Array Value) (w:World) (g:Nat) (t:TypeId) (cs:List Value) (d:TypeDesc) (hp:tmps.getD q undef=.pointer (some ⟨g,0,none⟩)) (hg:Bk w g t cs) (hu:P.underlying ty=some d) (hd:(match d with | .struct _ | .array _ _=>true | _=>false)=true) (hi:(P.info? ty).map (·.size)=some cs.length):(results fn tmps).run P w=.ok (.tuple #[.agg cs.toArray,tmps.getD u undef]) w:=by
 have hp' : tmps[q]?.getD undef=.pointer (some ⟨g,0,none⟩):=by simpa using hp
 simp only [results,h];simp [Sem.run_bind,hp',asAddr,run_loadVar_row w g t ty cs.toArray (0,0) d hg hu hd (by simpa using hi),Result.andThen]
def i5 (a0 a1 a2 a3 a4:Int):List Value:=[.int .i64 a0,.int .i64 a1,.int .i64 a2,.int .i64 a3,.int .i64 a4]
theorem da (a0 a1 a2 a3 a4:Int):(Tryz.prog.info? 85).map (·.size)=some (i5 a0 a1 a2 a3 a4).length:=by kernel_rfl
theorem iC (a0 a1 a2 a3 a4:Int):∀v∈i5 a0 a1 a2 a3 a4,v.oneCell'=true:=by intro v hv;simp only [i5,List.mem_cons,List.not_mem_nil,or_false] at hv;rcases hv with rfl | rfl | rfl | rfl | rfl <;> rfl
theorem iE (w:World):(Instr.build 85 #[]).run Tryz.prog w=.ok (.agg (i5 0 0 0 0 0).toArray) w:=by kernel_rfl
theorem pY (s0 s1 s2 s3 s4:Sln) (w:World):(Instr.build 112 #[(0,s0.v),(1,s1.v),(2,s2.v),(3,s3.v),(4,s4.v)]).run Tryz.prog w=.ok (.agg #[s0.v,s1.v,s2.v,s3.v,s4.v]) w:=by kernel_rfl
def vW (e:Ending):Prop:=∃(a0 a1 a2 a3 a4 n:Int),e=.returned (.tuple #[.agg (i5 a0 a1 a2 a3 a4).toArray,.int .i64 n])∧(n=0∨n=12)
set_option maxRecDepth 20000 in
set_option maxHeartbeats 2000000 in
theorem tQ (w:World) (p:PgT) (h:cI w w.heap.size p):Calls Tryz.prog 51 #[.agg (pgC p).toArray] w fun e w'=>vW e∧Below w.heap.size w w':=by
 obtain ⟨z,hz⟩:∃z,w.heap.size=z:=⟨_,rfl⟩;obtain ⟨w1,hw1⟩:∃w1,((w.alloc (.cells (pgC p).toArray 66)).alloc (.cells #[.int .i64 0,.int .i64 0,.int .i64 0,.int .i64 0,.int .i64 0] 85)).alloc (.cells #[.int .i64 0,.int .i64 0,.int .i64 0,.int .i64 0,.int .i64 0] 85)=w1:=⟨_,rfl⟩;have hk:Bk w1 z 66 (pgC p):=hw1▸((Bk.at_ w _ _ hz rfl).alloc _).alloc _;have hf:Bk w1 (z+1) 85 (i5 0 0 0 0 0):=hw1▸(Bk.at_ _ _ _ (by simp [hz]) rfl).alloc _;have hs:Bk w1 (z+1+1) 85 (i5 0 0 0 0 0):=hw1▸Bk.at_ _ _ _ (by simp [hz]) rfl;have hb1:Below w.heap.size w w1:=hw1▸((ai w _).alloc (by simp) _).alloc (by simp;omega) _;have HW:=aa hw1;have HZ:=aa hz;have HB:=aa hb1;have HK:=aa hk;have HF:=aa hf;have HS:=aa hs;have HPG:=aa (h.below hb1);clear hk hf hs hw1 hz hb1 h;go_enter Tryz.func51,Tryz.ntmps51;go_upto_region 2 with fail
 rw [HW.out,HZ.out];go_wp2_with fail
 refine (rr w1).mono ?_;rintro e w2 ⟨⟨m1,m2,rfl,hct⟩,hbn⟩;have HCT:=aa hct;have HB2:=aa hbn;clear hct hbn;go_wp2_with (with_reducible refine ah 190 _ _ rfl ?_)
 refine ak.go ?_;obtain ⟨g5,hg5⟩:∃q,w2.heap.size=q:=⟨_,rfl⟩;rw [hg5];refine an 190 _ _ rfl g5 hg5 (ctC m1 m2) rfl rfl rfl rfl (cj _ _) (vQ _ _) ?_;intro w3 hk3 hb3;have HC3:=aa hk3;have HB3:=aa (ab HB2.out hb3);have HCT3:=aa (HCT.later hb3);have HG5:Hid (z+1+1 < g5):=by have:=HS.lt;have:=HB2.size;show _ < _;omega
 clear hk3 hb3 hg5;have d4:w3.cell? ⟨z,4,none⟩=some (.slice p.st.A p.st.N p.st.C):=(HK.later HB3.out).cell 4;have d5:w3.cell? ⟨z,5,none⟩=some (.slice p.tu.A p.tu.N p.tu.C):=(HK.later HB3.out).cell 5;have d7:w3.cell? ⟨z,7,none⟩=some (.slice p.pl.A p.pl.N p.pl.C):=(HK.later HB3.out).cell 7;have d9:w3.cell? ⟨z,9,none⟩=some (.slice p.qu.A p.qu.N p.qu.C):=(HK.later HB3.out).cell 9;have d10:w3.cell? ⟨z,10,none⟩=some (.slice p.py.A p.py.N p.py.C):=(HK.later HB3.out).cell 10;have hbs:∀w,(Instr.build 112 #[(0,.slice p.st.A p.st.N p.st.C),(1,.slice p.tu.A p.tu.N p.tu.C),(2,.slice p.pl.A p.pl.N p.pl.C),(3,.slice p.qu.A p.qu.N p.qu.C),(4,.slice p.py.A p.py.N p.py.C)]).run Tryz.prog w=.ok (.agg #[.slice p.st.A p.st.N p.st.C,.slice p.tu.A p.tu.N p.tu.C,.slice p.pl.A p.pl.N p.pl.C,.slice p.qu.A p.qu.N p.qu.C,.slice p.py.A p.py.N p.py.C]) w:=fun w=>pY p.st p.tu p.pl p.qu p.py w;go_wp2_with fail
 clear d4 d5 d7 d9 d10 hbs;have HSZ:Hid (p.stL.size≤1048576∧p.tuL.size≤1048576∧p.plL.size≤1048576∧p.quL.size≤1048576∧p.pyL.size≤1048576):=by have:=HPG.few;unfold PgT.size at this;show _∧_;omega
 go_loopw [6,7,8,21] (fun _ _ _ i wr=>∃(k:Nat) (a0 a1 a2 a3 a4:Int),k≤5∧i=.int .i64 k∧Hid (Bk wr (z+1+1) 85 (i5 a0 a1 a2 a3 a4))∧Hid (w3.grownBy wr (some (z+1+1)))) (fun _ _ _ i _=>5 - (intOf i).toNat)
 case atStart=>exact ⟨0,0,0,0,0,0,by omega,rfl,HS.later HB3.out,eR (Below.refl _ _) _⟩
 case round=>
  obtain ⟨k,a0,a1,a2,a3,a4,hk,rfl,hS,hG⟩:=hrel;have HFr:Hid (Bk wr (z+1) 85 (i5 0 0 0 0 0)):=(HF.later HB3.out).grown hG.out (by intro e;injection e with e;omega);have HCr:Hid (Bk wr g5 190 (ctC m1 m2)):=HC3.grown hG.out (by have:=HG5.out;intro e;injection e with e;omega);have HCTr:Hid (j8 wr m1 m2):=HCT3.grown (HS.later HB3.out) hG.out;have HBr:Hid (Below w.heap.size w wr):=ag (ab HB.out HB3.out) hG.out (ab HB.out HB3.out).size (by have:=HZ.out;omega);have HPr:Hid (cI wr w.heap.size p):=HPG.below (lX (bG (eR HB3.out _) hG.out) (by have:=HZ.out;omega) HB.size);have hcases:k=0∨k=1∨k=2∨k=3∨k=4∨k=5:=by omega
  rcases hcases with rfl | rfl | rfl | rfl | rfl | rfl
  ·
   have hix:∀w,(Instr.index 112 (.agg #[.slice p.st.A p.st.N p.st.C,.slice p.tu.A p.tu.N p.tu.C,.slice p.pl.A p.pl.N p.pl.C,.slice p.qu.A p.qu.N p.qu.C,.slice p.py.A p.py.N p.py.C]) (.int .i64 0)).run Tryz.prog w=.ok (.slice p.st.A p.st.N p.st.C) w:=fun w=>by kernel_rfl
   go_wp2_with fail
   clear hix;refine (dW 8 wr).mono ?_;rintro e w6 ⟨⟨sb,rfl,hsb,hlt⟩,hbn⟩;have HSB6:=aa hsb;have HB6:=aa hbn;have HLT:=aa hlt;have HC6:=aa (HCr.later hbn);have hcs:=dH sb;unfold kL;clear hsb hbn hlt;go_wp2_with (with_reducible refine aj rfl 190 _ rfl g5 rfl (ctC m1 m2) 190 HC6.out _ Tryz.underlying190 rfl (cj _ _) ?_)
   refine (f3 p.stL w6 m1 m2 p.st.A p.st.N p.st.C (HCTr.later HB6.out) ((HPr.st.below (HB6.mono HBr.size)).more (Nat.le_trans HBr.size HB6.size)) HSZ.out.1).mono ?_;rintro e w7 ⟨⟨v7,rfl⟩,hbn⟩;have HB7:=aa (ab HB6.out hbn);have HSB7:=aa (HSB6.later hbn);clear hbn;go_wp2_with fail
   refine (bd w7 sb 8 v7 HSB7.out).mono ?_;rintro e w8 ⟨⟨q8,rfl,_⟩,hg⟩;have HB8:=aa (ag HB7.out hg HB7.size HLT.out);clear hg;have HS8:Hid (Bk w8 (z+1+1) 85 (i5 a0 a1 a2 a3 a4)):=hS.out.later HB8.out;go_wp2_with (with_reducible refine ah 3 _ _ rfl ?_)
   refine ak.go ?_;refine ae rfl 3 _ _ rfl (z+1+1) 0 (.int .i64 q8) [.int .i64 q8] rfl rfl rfl 85 ([]) [.int .i64 a0] ([.int .i64 a1,.int .i64 a2,.int .i64 a3,.int .i64 a4]) HS8.out rfl rfl (by kernel_rfl) (by intro x hx;simp at hx;subst hx;rfl) ?_;intro w9 hp;have hbk:Bk w9 (z+1+1) 85 (i5 q8 a1 a2 a3 a4):=hp.bk;have HS9:=aa hbk;have HB9:Hid (w3.grownBy w9 (some (z+1+1))):=bG hG.out (bG (eR HB8.out _) hp.only);have c9:w9.cell? ⟨z+1+1,0,none⟩=some (.int .i64 q8):=hbk.cell 0;clear hp hbk;by_cases hgt:65536 < q8
   ·have HF9:Hid (Bk w9 (z+1) 85 (i5 0 0 0 0 0)):=(HF.later HB3.out).grown HB9.out (by intro e;injection e with e;omega);have HBB:Hid (Below w.heap.size w w9):=ag (ab HB.out HB3.out) HB9.out (ab HB.out HB3.out).size (by have:=HZ.out;omega);go_wp2_with (first | ((with_reducible refine aS rfl 85 _ rfl #[] ?_ _ (iE _) ?_);focus (simp [Act.eval,Act.put];done)) | (with_reducible refine ah 85 _ _ rfl ?_))
    refine ak.go ?_;refine ae rfl 85 _ _ rfl (z+1) 0 (.agg (i5 0 0 0 0 0).toArray) (i5 0 0 0 0 0) rfl rfl rfl 85 [] (i5 0 0 0 0 0) [] (by simpa using HF9.out) rfl rfl (da _ _ _ _ _) (iC _ _ _ _ _) ?_;intro wa hp;have hbk:Bk wa (z+1) 85 (i5 0 0 0 0 0):=by have:=hp.bk;simpa using this
    have HBK:=aa hbk;have HBa:=aa (ag HBB.out hp.only HBB.size (by have:=HZ.out;omega));clear hp hbk c9;go_wp2_with fail
    refine bodyPost_ret (bp rfl _ _ (z+1) 85 (i5 0 0 0 0 0) _ rfl HBK.out Tryz.underlying85 rfl (da _ _ _ _ _)) rfl ?_;exact ⟨⟨0,0,0,0,0,12,rfl,.inr rfl⟩,HBa.out⟩
   ·go_wp2_with fail
    go_roundw
    case rel=>exact ⟨1,_,_,_,_,_,by omega,rfl,HS9.out,HB9.out⟩
    case measure=>simp [intOf]
  ·
   have hix:∀w,(Instr.index 112 (.agg #[.slice p.st.A p.st.N p.st.C,.slice p.tu.A p.tu.N p.tu.C,.slice p.pl.A p.pl.N p.pl.C,.slice p.qu.A p.qu.N p.qu.C,.slice p.py.A p.py.N p.py.C]) (.int .i64 1)).run Tryz.prog w=.ok (.slice p.tu.A p.tu.N p.tu.C) w:=fun w=>by kernel_rfl
   go_wp2_with fail
   clear hix;refine (dW 8 wr).mono ?_;rintro e w6 ⟨⟨sb,rfl,hsb,hlt⟩,hbn⟩;have HSB6:=aa hsb;have HB6:=aa hbn;have HLT:=aa hlt;have HC6:=aa (HCr.later hbn);have hcs:=dH sb;unfold kL;clear hsb hbn hlt;go_wp2_with (with_reducible refine aj rfl 190 _ rfl g5 rfl (ctC m1 m2) 190 HC6.out _ Tryz.underlying190 rfl (cj _ _) ?_)
   refine (f3 p.tuL w6 m1 m2 p.tu.A p.tu.N p.tu.C (HCTr.later HB6.out) ((HPr.tu.below (HB6.mono HBr.size)).more (Nat.le_trans HBr.size HB6.size)) HSZ.out.2.1).mono ?_;rintro e w7 ⟨⟨v7,rfl⟩,hbn⟩;have HB7:=aa (ab HB6.out hbn);have HSB7:=aa (HSB6.later hbn);clear hbn;go_wp2_with fail
   refine (bd w7 sb 8 v7 HSB7.out).mono ?_;rintro e w8 ⟨⟨q8,rfl,_⟩,hg⟩;have HB8:=aa (ag HB7.out hg HB7.size HLT.out);clear hg;have HS8:Hid (Bk w8 (z+1+1) 85 (i5 a0 a1 a2 a3 a4)):=hS.out.later HB8.out;go_wp2_with (with_reducible refine ah 3 _ _ rfl ?_)
   refine ak.go ?_;refine ae rfl 3 _ _ rfl (z+1+1) 1 (.int .i64 q8) [.int .i64 q8] rfl rfl rfl 85 ([.int .i64 a0]) [.int .i64 a1] ([.int .i64 a2,.int .i64 a3,.int .i64 a4]) HS8.out rfl rfl (by kernel_rfl) (by intro x hx;simp at hx;subst hx;rfl) ?_;intro w9 hp;have hbk:Bk w9 (z+1+1) 85 (i5 a0 q8 a2 a3 a4):=hp.bk;have HS9:=aa hbk;have HB9:Hid (w3.grownBy w9 (some (z+1+1))):=bG hG.out (bG (eR HB8.out _) hp.only);have c9:w9.cell? ⟨z+1+1,1,none⟩=some (.int .i64 q8):=hbk.cell 1;clear hp hbk;by_cases hgt:65536 < q8
   ·have HF9:Hid (Bk w9 (z+1) 85 (i5 0 0 0 0 0)):=(HF.later HB3.out).grown HB9.out (by intro e;injection e with e;omega);have HBB:Hid (Below w.heap.size w w9):=ag (ab HB.out HB3.out) HB9.out (ab HB.out HB3.out).size (by have:=HZ.out;omega);go_wp2_with (first | ((with_reducible refine aS rfl 85 _ rfl #[] ?_ _ (iE _) ?_);focus (simp [Act.eval,Act.put];done)) | (with_reducible refine ah 85 _ _ rfl ?_))
    refine ak.go ?_;refine ae rfl 85 _ _ rfl (z+1) 0 (.agg (i5 0 0 0 0 0).toArray) (i5 0 0 0 0 0) rfl rfl rfl 85 [] (i5 0 0 0 0 0) [] (by simpa using HF9.out) rfl rfl (da _ _ _ _ _) (iC _ _ _ _ _) ?_;intro wa hp;have hbk:Bk wa (z+1) 85 (i5 0 0 0 0 0):=by have:=hp.bk;simpa using this
    have HBK:=aa hbk;have HBa:=aa (ag HBB.out hp.only HBB.size (by have:=HZ.out;omega));clear hp hbk c9;go_wp2_with fail
    refine bodyPost_ret (bp rfl _ _ (z+1) 85 (i5 0 0 0 0 0) _ rfl HBK.out Tryz.underlying85 rfl (da _ _ _ _ _)) rfl ?_;exact ⟨⟨0,0,0,0,0,12,rfl,.inr rfl⟩,HBa.out⟩
   ·go_wp2_with fail
    go_roundw
    case rel=>exact ⟨2,_,_,_,_,_,by omega,rfl,HS9.out,HB9.out⟩
    case measure=>simp [intOf]
  ·
   have hix:∀w,(Instr.index 112 (.agg #[.slice p.st.A p.st.N p.st.C,.slice p.tu.A p.tu.N p.tu.C,.slice p.pl.A p.pl.N p.pl.C,.slice p.qu.A p.qu.N p.qu.C,.slice p.py.A p.py.N p.py.C]) (.int .i64 2)).run Tryz.prog w=.ok (.slice p.pl.A p.pl.N p.pl.C) w:=fun w=>by kernel_rfl
   go_wp2_with fail
   clear hix;refine (dW 8 wr).mono ?_;rintro e w6 ⟨⟨sb,rfl,hsb,hlt⟩,hbn⟩;have HSB6:=aa hsb;have HB6:=aa hbn;have HLT:=aa hlt;have HC6:=aa (HCr.later hbn);have hcs:=dH sb;unfold kL;clear hsb hbn hlt;go_wp2_with (with_reducible refine aj rfl 190 _ rfl g5 rfl (ctC m1 m2) 190 HC6.out _ Tryz.underlying190 rfl (cj _ _) ?_)
   refine (f3 p.plL w6 m1 m2 p.pl.A p.pl.N p.pl.C (HCTr.later HB6.out) ((HPr.pl.below (HB6.mono HBr.size)).more (Nat.le_trans HBr.size HB6.size)) HSZ.out.2.2.1).mono ?_;rintro e w7 ⟨⟨v7,rfl⟩,hbn⟩;have HB7:=aa (ab HB6.out hbn);have HSB7:=aa (HSB6.later hbn);clear hbn;go_wp2_with fail
   refine (bd w7 sb 8 v7 HSB7.out).mono ?_;rintro e w8 ⟨⟨q8,rfl,_⟩,hg⟩;have HB8:=aa (ag HB7.out hg HB7.size HLT.out);clear hg;have HS8:Hid (Bk w8 (z+1+1) 85 (i5 a0 a1 a2 a3 a4)):=hS.out.later HB8.out;go_wp2_with (with_reducible refine ah 3 _ _ rfl ?_)
   refine ak.go ?_;refine ae rfl 3 _ _ rfl (z+1+1) 2 (.int .i64 q8) [.int .i64 q8] rfl rfl rfl 85 ([.int .i64 a0,.int .i64 a1]) [.int .i64 a2] ([.int .i64 a3,.int .i64 a4]) HS8.out rfl rfl (by kernel_rfl) (by intro x hx;simp at hx;subst hx;rfl) ?_;intro w9 hp;have hbk:Bk w9 (z+1+1) 85 (i5 a0 a1 q8 a3 a4):=hp.bk;have HS9:=aa hbk;have HB9:Hid (w3.grownBy w9 (some (z+1+1))):=bG hG.out (bG (eR HB8.out _) hp.only);have c9:w9.cell? ⟨z+1+1,2,none⟩=some (.int .i64 q8):=hbk.cell 2;clear hp hbk;by_cases hgt:65536 < q8
   ·have HF9:Hid (Bk w9 (z+1) 85 (i5 0 0 0 0 0)):=(HF.later HB3.out).grown HB9.out (by intro e;injection e with e;omega);have HBB:Hid (Below w.heap.size w w9):=ag (ab HB.out HB3.out) HB9.out (ab HB.out HB3.out).size (by have:=HZ.out;omega);go_wp2_with (first | ((with_reducible refine aS rfl 85 _ rfl #[] ?_ _ (iE _) ?_);focus (simp [Act.eval,Act.put];done)) | (with_reducible refine ah 85 _ _ rfl ?_))
    refine ak.go ?_;refine ae rfl 85 _ _ rfl (z+1) 0 (.agg (i5 0 0 0 0 0).toArray) (i5 0 0 0 0 0) rfl rfl rfl 85 [] (i5 0 0 0 0 0) [] (by simpa using HF9.out) rfl rfl (da _ _ _ _ _) (iC _ _ _ _ _) ?_;intro wa hp;have hbk:Bk wa (z+1) 85 (i5 0 0 0 0 0):=by have:=hp.bk;simpa using this
    have HBK:=aa hbk;have HBa:=aa (ag HBB.out hp.only HBB.size (by have:=HZ.out;omega));clear hp hbk c9;go_wp2_with fail
    refine bodyPost_ret (bp rfl _ _ (z+1) 85 (i5 0 0 0 0 0) _ rfl HBK.out Tryz.underlying85 rfl (da _ _ _ _ _)) rfl ?_;exact ⟨⟨0,0,0,0,0,12,rfl,.inr rfl⟩,HBa.out⟩
   ·go_wp2_with fail
    go_roundw
    case rel=>exact ⟨3,_,_,_,_,_,by omega,rfl,HS9.out,HB9.out⟩
    case measure=>simp [intOf]
  ·
   have hix:∀w,(Instr.index 112 (.agg #[.slice p.st.A p.st.N p.st.C,.slice p.tu.A p.tu.N p.tu.C,.slice p.pl.A p.pl.N p.pl.C,.slice p.qu.A p.qu.N p.qu.C,.slice p.py.A p.py.N p.py.C]) (.int .i64 3)).run Tryz.prog w=.ok (.slice p.qu.A p.qu.N p.qu.C) w:=fun w=>by kernel_rfl
   go_wp2_with fail
   clear hix;refine (dW 8 wr).mono ?_;rintro e w6 ⟨⟨sb,rfl,hsb,hlt⟩,hbn⟩;have HSB6:=aa hsb;have HB6:=aa hbn;have HLT:=aa hlt;have HC6:=aa (HCr.later hbn);have hcs:=dH sb;unfold kL;clear hsb hbn hlt;go_wp2_with (with_reducible refine aj rfl 190 _ rfl g5 rfl (ctC m1 m2) 190 HC6.out _ Tryz.underlying190 rfl (cj _ _) ?_)
   refine (f3 p.quL w6 m1 m2 p.qu.A p.qu.N p.qu.C (HCTr.later HB6.out) ((HPr.qu.below (HB6.mono HBr.size)).more (Nat.le_trans HBr.size HB6.size)) HSZ.out.2.2.2.1).mono ?_;rintro e w7 ⟨⟨v7,rfl⟩,hbn⟩;have HB7:=aa (ab HB6.out hbn);have HSB7:=aa (HSB6.later hbn);clear hbn;go_wp2_with fail
   refine (bd w7 sb 8 v7 HSB7.out).mono ?_;rintro e w8 ⟨⟨q8,rfl,_⟩,hg⟩;have HB8:=aa (ag HB7.out hg HB7.size HLT.out);clear hg;have HS8:Hid (Bk w8 (z+1+1) 85 (i5 a0 a1 a2 a3 a4)):=hS.out.later HB8.out;go_wp2_with (with_reducible refine ah 3 _ _ rfl ?_)
   refine ak.go ?_;refine ae rfl 3 _ _ rfl (z+1+1) 3 (.int .i64 q8) [.int .i64 q8] rfl rfl rfl 85 ([.int .i64 a0,.int .i64 a1,.int .i64 a2]) [.int .i64 a3] ([.int .i64 a4]) HS8.out rfl rfl (by kernel_rfl) (by intro x hx;simp at hx;subst hx;rfl) ?_;intro w9 hp;have hbk:Bk w9 (z+1+1) 85 (i5 a0 a1 a2 q8 a4):=hp.bk;have HS9:=aa hbk;have HB9:Hid (w3.grownBy w9 (some (z+1+1))):=bG hG.out (bG (eR HB8.out _) hp.only);have c9:w9.cell? ⟨z+1+1,3,none⟩=some (.int .i64 q8):=hbk.cell 3;clear hp hbk;by_cases hgt:65536 < q8
   ·have HF9:Hid (Bk w9 (z+1) 85 (i5 0 0 0 0 0)):=(HF.later HB3.out).grown HB9.out (by intro e;injection e with e;omega);have HBB:Hid (Below w.heap.size w w9):=ag (ab HB.out HB3.out) HB9.out (ab HB.out HB3.out).size (by have:=HZ.out;omega);go_wp2_with (first | ((with_reducible refine aS rfl 85 _ rfl #[] ?_ _ (iE _) ?_);focus (simp [Act.eval,Act.put];done)) | (with_reducible refine ah 85 _ _ rfl ?_))
    refine ak.go ?_;refine ae rfl 85 _ _ rfl (z+1) 0 (.agg (i5 0 0 0 0 0).toArray) (i5 0 0 0 0 0) rfl rfl rfl 85 [] (i5 0 0 0 0 0) [] (by simpa using HF9.out) rfl rfl (da _ _ _ _ _) (iC _ _ _ _ _) ?_;intro wa hp;have hbk:Bk wa (z+1) 85 (i5 0 0 0 0 0):=by have:=hp.bk;simpa using this
    have HBK:=aa hbk;have HBa:=aa (ag HBB.out hp.only HBB.size (by have:=HZ.out;omega));clear hp hbk c9;go_wp2_with fail
    refine bodyPost_ret (bp rfl _ _ (z+1) 85 (i5 0 0 0 0 0) _ rfl HBK.out Tryz.underlying85 rfl (da _ _ _ _ _)) rfl ?_;exact ⟨⟨0,0,0,0,0,12,rfl,.inr rfl⟩,HBa.out⟩
   ·go_wp2_with fail
    go_roundw
    case rel=>exact ⟨4,_,_,_,_,_,by omega,rfl,HS9.out,HB9.out⟩
    case measure=>simp [intOf]
  ·
   have hix:∀w,(Instr.index 112 (.agg #[.slice p.st.A p.st.N p.st.C,.slice p.tu.A p.tu.N p.tu.C,.slice p.pl.A p.pl.N p.pl.C,.slice p.qu.A p.qu.N p.qu.C,.slice p.py.A p.py.N p.py.C]) (.int .i64 4)).run Tryz.prog w=.ok (.slice p.py.A p.py.N p.py.C) w:=fun w=>by kernel_rfl
   go_wp2_with fail
   clear hix;refine (dW 8 wr).mono ?_;rintro e w6 ⟨⟨sb,rfl,hsb,hlt⟩,hbn⟩;have HSB6:=aa hsb;have HB6:=aa hbn;have HLT:=aa hlt;have HC6:=aa (HCr.later hbn);have hcs:=dH sb;unfold kL;clear hsb hbn hlt;go_wp2_with (with_reducible refine aj rfl 190 _ rfl g5 rfl (ctC m1 m2) 190 HC6.out _ Tryz.underlying190 rfl (cj _ _) ?_)
   refine (f3 p.pyL w6 m1 m2 p.py.A p.py.N p.py.C (HCTr.later HB6.out) ((HPr.py.below (HB6.mono HBr.size)).more (Nat.le_trans HBr.size HB6.size)) HSZ.out.2.2.2.2).mono ?_;rintro e w7 ⟨⟨v7,rfl⟩,hbn⟩;have HB7:=aa (ab HB6.out hbn);have HSB7:=aa (HSB6.later hbn);clear hbn;go_wp2_with fail
   refine (bd w7 sb 8 v7 HSB7.out).mono ?_;rintro e w8 ⟨⟨q8,rfl,_⟩,hg⟩;have HB8:=aa (ag HB7.out hg HB7.size HLT.out);clear hg;have HS8:Hid (Bk w8 (z+1+1) 85 (i5 a0 a1 a2 a3 a4)):=hS.out.later HB8.out;go_wp2_with (with_reducible refine ah 3 _ _ rfl ?_)
   refine ak.go ?_;refine ae rfl 3 _ _ rfl (z+1+1) 4 (.int .i64 q8) [.int .i64 q8] rfl rfl rfl 85 ([.int .i64 a0,.int .i64 a1,.int .i64 a2,.int .i64 a3]) [.int .i64 a4] ([]) HS8.out rfl rfl (by kernel_rfl) (by intro x hx;simp at hx;subst hx;rfl) ?_;intro w9 hp;have hbk:Bk w9 (z+1+1) 85 (i5 a0 a1 a2 a3 q8):=hp.bk;have HS9:=aa hbk;have HB9:Hid (w3.grownBy w9 (some (z+1+1))):=bG hG.out (bG (eR HB8.out _) hp.only);have c9:w9.cell? ⟨z+1+1,4,none⟩=some (.int .i64 q8):=hbk.cell 4;clear hp hbk;by_cases hgt:65536 < q8
   ·have HF9:Hid (Bk w9 (z+1) 85 (i5 0 0 0 0 0)):=(HF.later HB3.out).grown HB9.out (by intro e;injection e with e;omega);have HBB:Hid (Below w.heap.size w w9):=ag (ab HB.out HB3.out) HB9.out (ab HB.out HB3.out).size (by have:=HZ.out;omega);go_wp2_with (first | ((with_reducible refine aS rfl 85 _ rfl #[] ?_ _ (iE _) ?_);focus (simp [Act.eval,Act.put];done)) | (with_reducible refine ah 85 _ _ rfl ?_))
    refine ak.go ?_;refine ae rfl 85 _ _ rfl (z+1) 0 (.agg (i5 0 0 0 0 0).toArray) (i5 0 0 0 0 0) rfl rfl rfl 85 [] (i5 0 0 0 0 0) [] (by simpa using HF9.out) rfl rfl (da _ _ _ _ _) (iC _ _ _ _ _) ?_;intro wa hp;have hbk:Bk wa (z+1) 85 (i5 0 0 0 0 0):=by have:=hp.bk;simpa using this
    have HBK:=aa hbk;have HBa:=aa (ag HBB.out hp.only HBB.size (by have:=HZ.out;omega));clear hp hbk c9;go_wp2_with fail
    refine bodyPost_ret (bp rfl _ _ (z+1) 85 (i5 0 0 0 0 0) _ rfl HBK.out Tryz.underlying85 rfl (da _ _ _ _ _)) rfl ?_;exact ⟨⟨0,0,0,0,0,12,rfl,.inr rfl⟩,HBa.out⟩
   ·go_wp2_with fail
    go_roundw
    case rel=>exact ⟨5,_,_,_,_,_,by omega,rfl,HS9.out,HB9.out⟩
    case measure=>simp [intOf]
  ·go_wp2_with (first | (with_reducible refine aj rfl 85 _ rfl (z+1+1) rfl (i5 a0 a1 a2 a3 a4) 85 hS.out _ Tryz.underlying85 rfl (da _ _ _ _ _) ?_) | (with_reducible refine ah 85 _ _ rfl ?_))
   refine ak.go ?_;refine ae rfl 85 _ _ rfl (z+1) 0 (.agg (i5 a0 a1 a2 a3 a4).toArray) (i5 a0 a1 a2 a3 a4) rfl rfl rfl 85 [] (i5 0 0 0 0 0) [] (by simpa using HFr.out) rfl rfl (da _ _ _ _ _) (iC _ _ _ _ _) ?_;intro w9 hp;have hbk:Bk w9 (z+1) 85 (i5 a0 a1 a2 a3 a4):=by have:=hp.bk;simpa using this
   have HBK:=aa hbk;have HB9:=aa (ag HBr.out hp.only HBr.size (by have:=HZ.out;omega));clear hp hbk;go_wp2_with fail
   refine bodyPost_ret (bp rfl _ _ (z+1) 85 (i5 a0 a1 a2 a3 a4) _ rfl HBK.out Tryz.underlying85 rfl (da _ _ _ _ _)) rfl ?_;exact ⟨⟨a0,a1,a2,a3,a4,0,rfl,.inl rfl⟩,HB9.out⟩
section
def dj (Q:Nat→Prop) (A:Option Addr) (N:Nat):Prop:=0 < N→∀ad,A=some ad→Q ad.block
theorem dj.mono {Q R:Nat→Prop} {A:Option Addr} {N:Nat} (h:dj Q A N) (hq:∀b,Q b→R b):dj R A N:=fun hn ad e=>hq _ (h hn ad e)
theorem dj.both {Q R:Nat→Prop} {A:Option Addr} {N:Nat} (h:dj Q A N) (k:dj R A N):dj (fun b=>Q b∧R b) A N:=fun hn ad e=>⟨h hn ad e,k hn ad e⟩
theorem Sl.rowIn {w:World} {B m n:Nat} {A:Option Addr} {xs:List Value} (h:Sl w B m A n xs):dj (· < B) A n:=fun hn ad e=>by
 obtain ⟨ad',e',hb,_⟩:=h.mem hn;rw [e] at e';injection e' with e';subst e';exact hb
theorem Sl.keepQ {w w' : World} {B B' m n:Nat} {A:Option Addr} {xs:List Value} {Q:Nat→Prop} (h:Sl w B m A n xs) (hq:dj Q A n) (hB:∀b,Q b→b < B→b < B') (hk:∀p:Addr,Q p.block→p.block < B→w'.cell? p=w.cell? p):Sl w' B' m A n xs:=
 ⟨h.len,h.le,fun hn=>by
  obtain ⟨ad,e,hb,hc⟩:=h.mem hn;have hQ:=hq hn ad e;exact ⟨ad,e,hB _ hQ hb,fun j u hu=>(hk _ (by rw [du];exact hQ) (by rw [du];exact hb)).trans (hc j u hu)⟩⟩
theorem dw {w:World} {base m n:Nat} {e:TypeId} {A:Option Addr} {c:Nat} {xs:List Value} (h:w.ownsRow base e m (.slice A n c) n xs):dj (base≤·) A n:=fun hn ad he=>by
 obtain ⟨g,cap,hv,hg,_⟩:=h.form hn;injection hv with h1 h2 h3
 rw [h1] at he;injection he with he;subst he;exact hg
namespace Es
def Rows (Q:Nat→Prop):Es→Prop
 | nil=>True
 | cons _ _ _ A N _ k r=>dj Q A N∧k.Rows Q∧r.Rows Q
def app:Es→Es→Es
 | nil,G=>G
 | cons op n nm A N C k r,G=>cons op n nm A N C k (r.app G)
section
variable {w w' : World} {B B' : Nat} {Q R:Nat→Prop}
theorem Rows.mono:∀{F:Es},F.Rows Q→(∀b,Q b→R b)→F.Rows R
 | nil,_,_=>trivial
 | cons _ _ _ _ _ _ _ _,h,hq=>⟨h.1.mono hq,Rows.mono h.2.1 hq,Rows.mono h.2.2 hq⟩
theorem Rows.both:∀{F:Es},F.Rows Q→F.Rows R→F.Rows (fun b=>Q b∧R b)
 | nil,_,_=>trivial
 | cons _ _ _ _ _ _ _ _,h,k=>⟨h.1.both k.1,Rows.both h.2.1 k.2.1,Rows.both h.2.2 k.2.2⟩
theorem At.rows:∀{F:Es},F.At w B→F.Rows (· < B)
 | nil,_=>trivial
 | cons _ _ _ _ _ _ _ _,h=>⟨h.1.rowIn,At.rows h.2.1,At.rows h.2.2⟩
theorem At.keepQ:∀{F:Es},F.At w B→F.Rows Q→(∀b,Q b→b < B→b < B')→(∀p:Addr,Q p.block→p.block < B→w'.cell? p=w.cell? p)→F.At w' B'
 | nil,_,_,_,_=>trivial
 | cons _ _ _ _ _ _ _ _,h,hq,hB,hk=>⟨h.1.keepQ hq.1 hB hk,At.keepQ h.2.1 hq.2.1 hB hk,At.keepQ h.2.2 hq.2.2 hB hk⟩
theorem app_cells:∀(F G:Es),(F.app G).cells=F.cells ++ G.cells
 | nil,G=>rfl
 | cons _ _ _ _ _ _ _ r,G=>by simp only [app,cells,app_cells r G,List.append_assoc]
theorem app_size:∀(F G:Es),(F.app G).size=F.size+G.size
 | nil,G=>by simp [app,size]
 | cons _ _ _ _ _ _ _ r,G=>by simp only [app,size,app_size r G];omega
theorem At.app:∀{F G:Es},F.At w B→G.At w B→(F.app G).At w B
 | nil,G,_,k=>k
 | cons _ _ _ _ _ _ _ _,G,h,k=>⟨h.1,h.2.1,At.app h.2.2 k⟩
theorem Ok.app:∀{F G:Es},F.Ok→G.Ok→(F.app G).Ok
 | nil,G,_,k=>k
 | cons _ _ _ _ _ _ _ _,G,h,k=>⟨h.1,h.2.1,h.2.2.1,h.2.2.2.1,h.2.2.2.2.1,h.2.2.2.2.2.1,Ok.app h.2.2.2.2.2.2 k⟩
theorem Rows.app:∀{F G:Es},F.Rows Q→G.Rows Q→(F.app G).Rows Q
 | nil,G,_,k=>k
 | cons _ _ _ _ _ _ _ _,G,h,k=>⟨h.1,h.2.1,Rows.app h.2.2 k⟩
end
end Es
namespace Ss
def Rows (Q:Nat→Prop):Ss→Prop
 | nil=>True
 | cons _ _ A N _ E _ _ A1 N1 _ L A2 N2 _ M r=>(dj Q A N∧E.Rows Q)∧(dj Q A1 N1∧L.Rows Q)∧(dj Q A2 N2∧M.Rows Q)∧r.Rows Q
def app:Ss→Ss→Ss
 | nil,G=>G
 | cons kd nm A N C E lo hi A1 N1 C1 L A2 N2 C2 M r,G=>cons kd nm A N C E lo hi A1 N1 C1 L A2 N2 C2 M (r.app G)
section
variable {w w' : World} {B B' : Nat} {Q R:Nat→Prop}
theorem Rows.mono:∀{F:Ss},F.Rows Q→(∀b,Q b→R b)→F.Rows R
 | nil,_,_=>trivial
 | cons _ _ _ _ _ _ _ _ _ _ _ _ _ _ _ _ _,h,hq=>⟨⟨h.1.1.mono hq,h.1.2.mono hq⟩,⟨h.2.1.1.mono hq,Rows.mono h.2.1.2 hq⟩,⟨h.2.2.1.1.mono hq,Rows.mono h.2.2.1.2 hq⟩,Rows.mono h.2.2.2 hq⟩
theorem Rows.both:∀{F:Ss},F.Rows Q→F.Rows R→F.Rows (fun b=>Q b∧R b)
 | nil,_,_=>trivial
 | cons _ _ _ _ _ _ _ _ _ _ _ _ _ _ _ _ _,h,k=>⟨⟨h.1.1.both k.1.1,h.1.2.both k.1.2⟩,⟨h.2.1.1.both k.2.1.1,Rows.both h.2.1.2 k.2.1.2⟩,⟨h.2.2.1.1.both k.2.2.1.1,Rows.both h.2.2.1.2 k.2.2.1.2⟩,Rows.both h.2.2.2 k.2.2.2⟩
theorem At.rows:∀{F:Ss},F.At w B→F.Rows (· < B)
 | nil,_=>trivial
 | cons _ _ _ _ _ _ _ _ _ _ _ _ _ _ _ _ _,h=>⟨⟨h.1.1.rowIn,h.1.2.rows⟩,⟨h.2.1.1.rowIn,At.rows h.2.1.2⟩,⟨h.2.2.1.1.rowIn,At.rows h.2.2.1.2⟩,At.rows h.2.2.2⟩
theorem At.keepQ:∀{F:Ss},F.At w B→F.Rows Q→(∀b,Q b→b < B→b < B')→(∀p:Addr,Q p.block→p.block < B→w'.cell? p=w.cell? p)→F.At w' B'
 | nil,_,_,_,_=>trivial
 | cons _ _ _ _ _ _ _ _ _ _ _ _ _ _ _ _ _,h,hq,hB,hk=>⟨⟨h.1.1.keepQ hq.1.1 hB hk,h.1.2.keepQ hq.1.2 hB hk⟩,⟨h.2.1.1.keepQ hq.2.1.1 hB hk,At.keepQ h.2.1.2 hq.2.1.2 hB hk⟩,⟨h.2.2.1.1.keepQ hq.2.2.1.1 hB hk,At.keepQ h.2.2.1.2 hq.2.2.1.2 hB hk⟩,At.keepQ h.2.2.2 hq.2.2.2 hB hk⟩
theorem app_cells:∀(F G:Ss),(F.app G).cells=F.cells ++ G.cells
 | nil,G=>rfl
 | cons _ _ _ _ _ _ _ _ _ _ _ _ _ _ _ _ r,G=>by simp only [app,cells,app_cells r G,List.append_assoc]
theorem app_size:∀(F G:Ss),(F.app G).size=F.size+G.size
 | nil,G=>by simp [app,size]
 | cons _ _ _ _ _ _ _ _ _ _ _ _ _ _ _ _ r,G=>by simp only [app,size,app_size r G];omega
theorem At.app:∀{F G:Ss},F.At w B→G.At w B→(F.app G).At w B
 | nil,G,_,k=>k
 | cons _ _ _ _ _ _ _ _ _ _ _ _ _ _ _ _ _,G,h,k=>⟨h.1,h.2.1,h.2.2.1,At.app h.2.2.2 k⟩
theorem Ok.app:∀{F G:Ss},F.Ok→G.Ok→(F.app G).Ok
 | nil,G,_,k=>k
 | cons _ _ _ _ _ _ _ _ _ _ _ _ _ _ _ _ _,G,h,k=>⟨h.1,h.2.1,h.2.2.1,h.2.2.2.1,h.2.2.2.2.1,h.2.2.2.2.2.1,h.2.2.2.2.2.2.1,h.2.2.2.2.2.2.2.1,h.2.2.2.2.2.2.2.2.1,Ok.app h.2.2.2.2.2.2.2.2.2 k⟩
theorem Rows.app:∀{F G:Ss},F.Rows Q→G.Rows Q→(F.app G).Rows Q
 | nil,G,_,k=>k
 | cons _ _ _ _ _ _ _ _ _ _ _ _ _ _ _ _ _,G,h,k=>⟨h.1,h.2.1,h.2.2.1,Rows.app h.2.2.2 k⟩
end
end Ss
structure gF (w:World) (base T:Nat) (v:Value) (k:Nat) (F:Es):Prop where
 own:w.ownsRow base T 4 v k F.cells
 at_:F.At w w.heap.size
 ok:F.Ok
 frm:F.Rows (base≤·)
 aw:∀g,v.ownBlock=some g→F.Rows (·≠g)
structure f7 (w:World) (base T:Nat) (v:Value) (k:Nat) (F:Ss):Prop where
 own:w.ownsRow base T 7 v k F.cells
 at_:F.At w w.heap.size
 ok:F.Ok
 frm:F.Rows (base≤·)
 aw:∀g,v.ownBlock=some g→F.Rows (·≠g)
section
variable {w w' : World} {base base' T k:Nat} {v:Value}
theorem gF.nil (w:World) (base T:Nat):gF w base T (.slice none 0 0) 0 .nil:=⟨World.ownsRow_nil _ _ _ _,trivial,trivial,trivial,fun _ _=>trivial⟩
theorem f7.nil (w:World) (base T:Nat):f7 w base T (.slice none 0 0) 0 .nil:=⟨World.ownsRow_nil _ _ _ _,trivial,trivial,trivial,fun _ _=>trivial⟩
theorem gF.later {F:Es} (h:gF w base T v k F) (hb:Below w.heap.size w w'):gF w' base T v k F:=⟨az h.own hb,h.at_.later hb,h.ok,h.frm,h.aw⟩
theorem f7.later {F:Ss} (h:f7 w base T v k F) (hb:Below w.heap.size w w'):f7 w' base T v k F:=⟨az h.own hb,h.at_.later hb,h.ok,h.frm,h.aw⟩
theorem rY {m:Nat} {xs:List Value} (h:w.ownsRow base T m v k xs) {g:Nat} (hg:v.ownBlock=some g):base≤g∧g < w.heap.size:=by
 rcases dA h with ⟨rfl,_⟩ | ⟨g',cap,ys,rfl,hb,hk,_⟩
 ·simp [Value.ownBlock] at hg
 ·have:g'=g:=by simpa [Value.ownBlock] using hg
  subst this;exact ⟨hb,hk.lt⟩
theorem gF.in_ {F:Es} {A:Option Addr} {N C:Nat} (h:gF w base T (.slice A N C) N F):de w w.heap.size A N F:=⟨Sl.of_own h.own,h.at_,h.ok⟩
theorem f7.in_ {F:Ss} {A:Option Addr} {N C:Nat} (h:f7 w base T (.slice A N C) N F):cE w w.heap.size A N F:=⟨Sl.of_own h.own,h.at_,h.ok⟩
theorem ef {m:Nat} {A:Option Addr} {N C:Nat} {xs:List Value} (h:w.ownsRow base T m (.slice A N C) k xs):N≤C:=by
 rcases h.2 with ⟨e,_⟩ | ⟨g,cap,cur,e,_,_,hnc,_⟩
 ·injection e with _ e1 e2;omega
 ·injection e with _ e1 e2;omega
theorem gF.snoc {F:Es} {v' : Value} {op n:Int} {nm:ByteArray} {A:Option Addr} {N C:Nat} {K:Es} (h:gF w base T v k F) (hK:de w w.heap.size A N K) (hC:N≤C) (ho : -9223372036854775808≤op∧op < 9223372036854775808) (hn : -9223372036854775808≤n∧n < 9223372036854775808) (hnm:nm.size≤1048576) (hf:dj (base≤·) A N∧K.Rows (base≤·)) (ha:∀g,v.ownBlock=some g→dj (·≠g) A N∧K.Rows (·≠g)) (hown:w'.ownsRow base T 4 v' (k+1) (F.cells ++ exC op n nm A N C)) (hg:w.grownBy w' v.ownBlock) (hat:v'.ownBlock=v.ownBlock∨v'.ownBlock=some w.heap.size):gF w' base T v' (k+1) (F.app (.cons op n nm A N C K .nil)):=by
 have hcell:∀p:Addr,(∀g,v.ownBlock=some g→p.block≠g)→p.block < w.heap.size→w'.cell? p=w.cell? p:=fun p h1 h2=>World.cell?_of_block (hg.block p.block h2 (fun e=>h1 _ e.symm rfl));obtain ⟨Q,hQ⟩:∃Q:Nat→Prop,Q=fun b=>∀g,v.ownBlock=some g→b≠g:=⟨_,rfl⟩;have hall:(F.Rows Q∧dj Q A N)∧K.Rows Q:=by
  subst hQ;cases hv:v.ownBlock with
  | none=>refine ⟨⟨(h.at_.rows).mono (fun _ _ g e=>by simp at e),hK.sl.rowIn.mono (fun _ _ g e=>by simp at e)⟩,(hK.at_.rows).mono (fun _ _ g e=>by simp at e)⟩
  | some g0=>
   have e:∀b,b≠g0→∀g,some g0=some g→b≠g:=fun b hb g e=>by injection e with e;subst e;exact hb
   exact ⟨⟨(h.aw g0 hv).mono e,(ha g0 hv).1.mono e⟩,(ha g0 hv).2.mono e⟩
 have hkeep:∀p:Addr,Q p.block→p.block < w.heap.size→w'.cell? p=w.cell? p:=fun p h1 h2=>hcell p (by subst hQ;exact h1) h2;have hB:∀b,Q b→b < w.heap.size→b < w'.heap.size:=fun b _ hb=>Nat.lt_of_lt_of_le hb hg.size;refine ⟨by rw [Es.app_cells];simpa [Es.cells] using hown,(h.at_.keepQ hall.1.1 hB hkeep).app ⟨hK.sl.keepQ hall.1.2 hB hkeep,hK.at_.keepQ hall.2 hB hkeep,trivial⟩,h.ok.app ⟨ho,hn,hnm,hC,hK.len,hK.ok,trivial⟩,h.frm.app ⟨hf.1,hf.2,trivial⟩,fun g hgv=>?_⟩;rcases hat with e | e
 ·rw [e] at hgv;exact (h.aw g hgv).app ⟨(ha g hgv).1,(ha g hgv).2,trivial⟩
 ·rw [e] at hgv;injection hgv with hgv
  subst hgv;have hne:∀b,b < w.heap.size→b≠w.heap.size:=fun b hb=>by omega
  exact ((h.at_.rows).mono hne).app ⟨hK.sl.rowIn.mono hne,(hK.at_.rows).mono hne,trivial⟩
theorem f7.snoc {F:Ss} {v' : Value} {kd lo hi:Int} {nm:ByteArray} {A A1 A2:Option Addr} {N C N1 C1 N2 C2:Nat} {E:Es} {L M:Ss} (h:f7 w base T v k F) (hS:iA w w.heap.size kd nm A N C E lo hi A1 N1 C1 L A2 N2 C2 M) (hf:(dj (base≤·) A N∧E.Rows (base≤·))∧(dj (base≤·) A1 N1∧L.Rows (base≤·))∧dj (base≤·) A2 N2∧M.Rows (base≤·)) (ha:∀g,v.ownBlock=some g→(dj (·≠g) A N∧E.Rows (·≠g))∧(dj (·≠g) A1 N1∧L.Rows (·≠g))∧dj (·≠g) A2 N2∧M.Rows (·≠g)) (hown:w'.ownsRow base T 7 v' (k+1) (F.cells ++ aR kd nm A N C lo hi A1 N1 C1 A2 N2 C2)) (hg:w.grownBy w' v.ownBlock) (hat:v'.ownBlock=v.ownBlock∨v'.ownBlock=some w.heap.size):f7 w' base T v' (k+1) (F.app (.cons kd nm A N C E lo hi A1 N1 C1 L A2 N2 C2 M .nil)):=by
 have hcell:∀p:Addr,(∀g,v.ownBlock=some g→p.block≠g)→p.block < w.heap.size→w'.cell? p=w.cell? p:=fun p h1 h2=>World.cell?_of_block (hg.block p.block h2 (fun e=>h1 _ e.symm rfl));have hB:∀b,(∀g,v.ownBlock=some g→b≠g)→b < w.heap.size→b < w'.heap.size:=fun b _ hb=>Nat.lt_of_lt_of_le hb hg.size;have hall:F.Rows (fun b=>∀g,v.ownBlock=some g→b≠g)∧(dj (fun b=>∀g,v.ownBlock=some g→b≠g) A N∧E.Rows (fun b=>∀g,v.ownBlock=some g→b≠g))∧(dj (fun b=>∀g,v.ownBlock=some g→b≠g) A1 N1∧L.Rows (fun b=>∀g,v.ownBlock=some g→b≠g))∧dj (fun b=>∀g,v.ownBlock=some g→b≠g) A2 N2∧M.Rows (fun b=>∀g,v.ownBlock=some g→b≠g):=by
  cases hv:v.ownBlock with
  | none=>
   have e:∀B:Nat,∀b,b < B→∀g,(none:Option Nat)=some g→b≠g:=fun _ _ _ g e=>by simp at e
   exact ⟨(h.at_.rows).mono (e _),⟨hS.e.sl.rowIn.mono (e _),(hS.e.at_.rows).mono (e _)⟩,⟨hS.l.sl.rowIn.mono (e _),(hS.l.at_.rows).mono (e _)⟩,hS.m.sl.rowIn.mono (e _),(hS.m.at_.rows).mono (e _)⟩
  | some g0=>
   have e:∀b,b≠g0→∀g,some g0=some g→b≠g:=fun b hb g e=>by injection e with e;subst e;exact hb
   obtain ⟨⟨a1,a2⟩,⟨a3,a4⟩,a5,a6⟩:=ha g0 hv;exact ⟨(h.aw g0 hv).mono e,⟨a1.mono e,a2.mono e⟩,⟨a3.mono e,a4.mono e⟩,a5.mono e,a6.mono e⟩
 obtain ⟨b0,⟨b1,b2⟩,⟨b3,b4⟩,b5,b6⟩:=hall;refine ⟨by rw [Ss.app_cells];simpa [Ss.cells] using hown,(h.at_.keepQ b0 hB hcell).app ⟨⟨hS.e.sl.keepQ b1 hB hcell,hS.e.at_.keepQ b2 hB hcell⟩,⟨hS.l.sl.keepQ b3 hB hcell,hS.l.at_.keepQ b4 hB hcell⟩,⟨hS.m.sl.keepQ b5 hB hcell,hS.m.at_.keepQ b6 hB hcell⟩,trivial⟩,h.ok.app ⟨hS.kd,hS.nm,hS.lo,hS.hi,⟨hS.ec,hS.lc,hS.mc⟩,⟨hS.e.len,hS.l.len,hS.m.len⟩,hS.e.ok,hS.l.ok,hS.m.ok,trivial⟩,h.frm.app ⟨hf.1,hf.2.1,hf.2.2,trivial⟩,fun g hgv=>?_⟩;rcases hat with e | e
 ·rw [e] at hgv;exact (h.aw g hgv).app ⟨(ha g hgv).1,(ha g hgv).2.1,(ha g hgv).2.2,trivial⟩
 ·rw [e] at hgv;injection hgv with hgv
  subst hgv;have hne:∀b,b < w.heap.size→b≠w.heap.size:=fun b hb=>by omega
  exact ((h.at_.rows).mono hne).app ⟨⟨hS.e.sl.rowIn.mono hne,(hS.e.at_.rows).mono hne⟩,⟨hS.l.sl.rowIn.mono hne,(hS.l.at_.rows).mono hne⟩,⟨hS.m.sl.rowIn.mono hne,(hS.m.at_.rows).mono hne⟩,trivial⟩
end
end
end Go.Proofs.YtllbdpdnpaocnaaGreatDoor
