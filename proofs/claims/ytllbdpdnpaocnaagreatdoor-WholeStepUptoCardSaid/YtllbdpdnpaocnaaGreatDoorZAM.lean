/- Part of the proof of WholeStep. -/
import Derived.Test.YtllbdpdnpaocnaaGreatDoorZAL
namespace Go.Proofs.YtllbdpdnpaocnaaGreatDoor
set_option linter.unusedSimpArgs false
set_option linter.unusedVariables false
set_option linter.constructorNameAsVariable false
open Go.RowKit Go.Maps
def InR (x:Int):Prop:=-9223372036854775808≤x∧x < 9223372036854775808
theorem pZ (x:Int):InR (IntKind.i64.wrap x):=by unfold InR;rw [IntKind.wrap_i64];omega
structure aX where
 op:Int
 a:Int
 b:Int
 c:Int
def ay (i:aX):List Value:=[.int .i64 i.op,.int .i64 i.a,.int .i64 i.b,.int .i64 i.c]
def eB (i:aX):Prop:=InR i.op∧InR i.a∧InR i.b∧InR i.c
structure MkK where
 p:PgT
 bh:Int
 ms:Nat
 me:Nat
def mkC (v:Value) (K:MkK) (wb:Nat) (fors:Int):List Value:=v :: (pgC K.p ++ [.int .i64 K.bh,.map (some wb),.int .i64 fors,.map (some K.ms),.map (some K.me)])
open Classical in
noncomputable def fnR (v:Value):Option (DataW Unit × List MemPlace):=
  if h:∃f:Nat,v=.func (.func f) #[] #[] then some (.lit (.int .i64 ((Classical.choose h:Nat):Int)),[]) else if v=.nilFunc then some (.lit (.bool false),[]) else none
theorem rv (f:Nat):fnR (.func (.func f) #[] #[])=some (.lit (.int .i64 f),[]):=by
 have h:∃f' : Nat,Value.func (.func f) #[] #[]=.func (.func f') #[] #[]:=⟨f,rfl⟩;unfold fnR;rw [dif_pos h];have:=Classical.choose_spec h;injection this with h1
 injection h1 with h1
 rw [←h1]
theorem ow:fnR .nilFunc=some (.lit (.bool false),[]):=by
 have h:¬∃f' : Nat,Value.nilFunc=.func (.func f') #[] #[]:=by rintro ⟨f,h⟩;cases h
 unfold fnR;rw [dif_neg h,if_pos rfl]
theorem oy {v:Value} {z:DataW Unit × List MemPlace} (h:fnR v=some z):(∃f:Nat,v=.func (.func f) #[] #[]∧z=(.lit (.int .i64 f),[]))∨z=(.lit (.bool false),[]):=by
 by_cases hp:∃f:Nat,v=.func (.func f) #[] #[]
 ·obtain ⟨f,rfl⟩:=hp;rw [rv] at h;exact .inl ⟨f,rfl,by injection h with h;exact h.symm⟩
 ·unfold fnR at h;rw [dif_neg hp] at h;by_cases hv:v=.nilFunc
  ·rw [if_pos hv] at h;exact .inr (by injection h with h;exact h.symm)
  ·rw [if_neg hv] at h;cases h
structure Mk (w:World) (lo g wb n c:Nat) (K:MkK) (o:Option Nat):Prop where
 bk:∃(A:Option Addr) (C:Nat) (fors:Int) (L:List aX),Bk w g 201 (mkC (.slice A n C) K wb fors)∧w.ownsRow lo 51 4 (.slice A n C) n (L.flatMap ay)∧(∀i∈L,eB i)∧(Value.slice A n C).ownBlock=o
 mp:∃(m:Nat) (D:DataW Unit),w.ownsMap Tryz.prog 9 (plainElem Tryz.prog 3) wb m D∧m≤c
 los:lo≤g∧lo≤wb
 hp:lo≤w.heap.size
structure Fr (g wb:Nat) (w w' : World) (o o' : Option Nat):Prop where
 os:w'.os=w.os
 tape:w'.tape=w.tape
 output:w'.output=w.output
 size:w.heap.size≤w'.heap.size
 blk:∀i,i < w.heap.size→i≠g→i≠wb→some i≠o→w'.heap[i]?=w.heap[i]?
 row:o'=o∨∃k,o'=some k∧w.heap.size≤k
section
variable {g wb lo:Nat} {w w' w'' : World} {o o' o'' : Option Nat}
theorem Fr.refl (g wb:Nat) (w:World) (o:Option Nat):Fr g wb w w o o:=⟨rfl,rfl,rfl,Nat.le_refl _,fun _ _ _ _ _=>rfl,.inl rfl⟩
theorem Fr.of (h:Below w.heap.size w w') (o:Option Nat):Fr g wb w w' o o:=⟨h.os,h.tape,h.output,h.size,fun i hi _ _ _=>h.block i hi,.inl rfl⟩
theorem Fr.trans (h:Fr g wb w w' o o') (k:Fr g wb w' w'' o' o''):Fr g wb w w'' o o'':=by
 refine ⟨k.os.trans h.os,k.tape.trans h.tape,k.output.trans h.output,Nat.le_trans h.size k.size,fun i hi a b c=>?_,?_⟩
 ·refine (k.blk i (Nat.lt_of_lt_of_le hi h.size) a b ?_).trans (h.blk i hi a b c);rcases h.row with rfl | ⟨q,rfl,hq⟩
  ·exact c
  ·intro e;injection e with e;omega
 ·rcases k.row with rfl | ⟨q,rfl,hq⟩
  ·exact h.row
  ·exact .inr ⟨q,rfl,Nat.le_trans h.size hq⟩
theorem Fr.then (h:Fr g wb w w' o o') (k:Below w'.heap.size w' w''):Fr g wb w w'' o o':=h.trans (Fr.of k _)
theorem Fr.map (h:Fr g wb w w' o o') (hg:w'.grownBy w'' (some wb)):Fr g wb w w'' o o':=
 h.trans ⟨hg.os,hg.tape,hg.output,hg.size,fun i hi _ b _=>hg.block i hi (fun e=>b (by injection e)),.inl rfl⟩
theorem Fr.bk (h:Fr g wb w w' o o') (hg:w'.grownBy w'' (some g)):Fr g wb w w'' o o':=
 h.trans ⟨hg.os,hg.tape,hg.output,hg.size,fun i hi a _ _=>hg.block i hi (fun e=>a (by injection e)),.inl rfl⟩
theorem Fr.grow (h:Fr g wb w w' o o') (hg:w'.grownBy w'' o') (hr:o''=o'∨o''=some w'.heap.size):Fr g wb w w'' o o'':=
 h.trans ⟨hg.os,hg.tape,hg.output,hg.size,fun i hi _ _ c=>hg.block i hi c,by rcases hr with rfl | rfl;exact .inl rfl;exact .inr ⟨_,rfl,Nat.le_refl _⟩⟩
theorem Fr.keep {b:Nat} {T:TypeId} {cs:List Value} (h:Fr g wb w w' o o') (hb:Bk w b T cs) (h1:b≠g) (h2:b≠wb) (h3:some b≠o):Bk w' b T cs:=by have:=hb.lt;unfold Bk at hb ⊢;rw [h.blk b this h1 h2 h3];exact hb
theorem Fr.below (h:Fr g wb w w' o o') (h1:lo≤g) (h2:lo≤wb) (h3:∀k,o=some k→lo≤k) (h4:lo≤w.heap.size):Below lo w w':=
 ⟨h.os,h.tape,h.output,h.size,fun i hi=>h.blk i (by omega) (by omega) (by omega) (fun e=>by have:=h3 i e.symm;omega)⟩
variable {n c:Nat} {K:MkK}
theorem Mk.row_lo (h:Mk w lo g wb n c K o):∀k,o=some k→lo≤k∧k < w.heap.size:=by obtain ⟨A,C,fors,L,_,h2,_,h4⟩:=h.bk;intro k hk;rw [←h4] at hk;exact rY h2 hk
theorem Mk.lt (h:Mk w lo g wb n c K o):g < w.heap.size∧wb < w.heap.size:=by obtain ⟨A,C,fors,L,h1,_⟩:=h.bk;obtain ⟨m,D,h2,_⟩:=h.mp;exact ⟨h1.lt,h2.lt⟩
theorem Mk.later (h:Mk w lo g wb n c K o) (hb:Below w.heap.size w w'):Mk w' lo g wb n c K o:=by obtain ⟨A,C,fors,L,h1,h2,h3,h4⟩:=h.bk;obtain ⟨m,D,h5,h6⟩:=h.mp;exact ⟨⟨A,C,fors,L,h1.later hb,az h2 hb,h3,h4⟩,⟨m,D,h5.kept (av hb) (by simp),h6⟩,h.los,Nat.le_trans h.hp hb.size⟩
theorem Mk.more {c' : Nat} (h:Mk w lo g wb n c K o) (hc:c≤c'):Mk w lo g wb n c' K o:=by obtain ⟨m,D,h5,h6⟩:=h.mp;exact ⟨h.bk,⟨m,D,h5,by omega⟩,h.los,h.hp⟩
theorem Mk.below (h:Mk w lo g wb n c K o) (hf:Fr g wb w w' o o'):Below lo w w':=hf.below h.los.1 h.los.2 (fun k hk=>(h.row_lo k hk).1) h.hp
theorem Mk.new (h:Mk w lo g wb n c K o):w.heap.size≠g∧w.heap.size≠wb∧some w.heap.size≠o:=
 ⟨by have:=h.lt;omega,by have:=h.lt;omega,fun e=>by have:=(h.row_lo _ e.symm).2;omega⟩
theorem Mk.mapped {c' : Nat} (h:Mk w lo g wb n c K o) (hg:w.grownBy w' (some wb)) (hm:∃(m:Nat) (D:DataW Unit),w'.ownsMap Tryz.prog 9 (plainElem Tryz.prog 3) wb m D∧m≤c'):Mk w' lo g wb n c' K o:=by
 obtain ⟨A,C,fors,L,h1,h2,h3,h4⟩:=h.bk;obtain ⟨m,D,h5,h6⟩:=h.mp;refine ⟨⟨A,C,fors,L,h1.grown hg (by have:=dp h1 h5;simpa using this),bx h2 hg ?_,h3,h4⟩,hm,h.los,Nat.le_trans h.hp hg.size⟩;rcases dA h2 with ⟨e,_⟩ | ⟨q,cap,ys,e,_,hq,_⟩
 ·rw [e];simp [Value.ownBlock]
 ·rw [e];have:=dp hq h5;simpa [Value.ownBlock] using this
end
theorem aW (i:aX):(Tryz.prog.info? 51).map (·.size)=some (ay i).length:=(show (Tryz.prog.info? 51).map (·.size)=some 4 by kernel_rfl)
theorem dN (i:aX):∀v∈ay i,v.oneCell'=true:=by intro v hv;simp only [ay,List.mem_cons,List.not_mem_nil,or_false] at hv;rcases hv with rfl | rfl | rfl | rfl <;> rfl
theorem tR (a b c d:Int) (w:World):(Instr.build 51 #[(0,.int .i64 a),(1,.int .i64 b),(2,.int .i64 c),(3,.int .i64 d)]).run Tryz.prog w=.ok (.agg (ay ⟨a,b,c,d⟩).toArray) w:=by kernel_rfl
theorem zT (i:aX) (w:World):(Instr.buildSlice 42 1 #[(0,.agg (ay i).toArray)]).run Tryz.prog w=.ok (.slice (some ⟨w.heap.size,0,none⟩) 1 1) (w.alloc (.cells (ay i).toArray 51)):=by kernel_rfl
theorem Tryz.infoIns:(Tryz.prog.info? 51).map (fun i=>(i.zero,i.size,i.bytes))=some (some (.agg #[.int .i64 0,.int .i64 0,.int .i64 0,.int .i64 0]),4,32):=by kernel_rfl
set_option maxRecDepth 20000 in
theorem yj (w:World) (lo g wb n c:Nat) (K:MkK) (o:Option Nat) (h:Mk w lo g wb n c K o) (op a b d:Int) (hi:eB ⟨op,a,b,d⟩) (hn:n≤4096):Calls Tryz.prog 119 #[.pointer (some ⟨g,0,none⟩),.int .i64 op,.int .i64 a,.int .i64 b,.int .i64 d] w fun e w'=>e=.returned (.int .i64 n)∧∃o',Mk w' lo g wb (n+1) c K o'∧Fr g wb w w' o o'∧∀(m:Nat) (D:DataW Unit),w.ownsMap Tryz.prog 9 (plainElem Tryz.prog 3) wb m D→w'.ownsMap Tryz.prog 9 (plainElem Tryz.prog 3) wb m D:=by
 obtain ⟨A,C,fors,L,h1,h2,h3,h4⟩:=h.bk;have HI:=aa hi;have HM:=aa h;have H1:=aa h1;have H2:=aa h2;have H3:=aa h3;have H4:=aa h4;have HP:=aa h.hp;have c0:w.cell? ⟨g,0,none⟩=some (.slice A n C):=h1.cell 0;have HBI:=tR op a b d;have hwr:wrap64 ((n:Int)+1 - 1)=n:=by rw [show (n:Int)+1 - 1=n by omega];exact IntWalk.wrap64_in _ (by omega)
 clear h h1 h2 h3 h4 hi;go_enter Tryz.func119,Tryz.ntmps119;go_wp2_with (with_reducible refine a8 42 1 _ rfl ?_)
 refine ak.go ?_;refine ar (by rfl) 42 1 _ rfl #[(0,.agg (ay ⟨op,a,b,d⟩).toArray)] (by simp [Act.eval,Act.put,ay]) 51 (ay ⟨op,a,b,d⟩) (fun w=>zT _ w) ?_;intro q3 w3 hq3 hk3 hb3;have HN3:=aa hk3;have HB3:=aa hb3;have HO3:=aa (az H2.out hb3);clear hq3 hk3 hb3 c0;obtain ⟨i0,hj,hj0,hj1,hj2⟩:=info_parts Tryz.infoIns;have hbw:lo≤w3.heap.size:=Nat.le_trans HP.out HB3.size;go_wp2_with (at_builtin;refine bm _ rfl (.tmp 15) (.tmp 21) 42 rfl lo 51 i0 _ _ _ Tryz.underlying42 hj hj0 hj1 hj2 rfl (by decide) _ _ _ rfl HO3.out _ _ _ _ _ rfl (HN3.sl (n:=1) rfl (by omega) (fun _ _ h=>h)) (dN _) (by unfold maxLen;omega) (by omega) hbw ?_;intro v4 w4 hown hg hat;refine bA ?_)
 refine ak.go ?_;obtain ⟨A4,C4,rfl⟩:=aI hown;have HO4:Hid (w4.ownsRow lo 51 4 (.slice A4 (n+1) C4) (n+1) ((L ++ [aX.mk op a b d]).flatMap ay)):=by show World.ownsRow _ _ _ _ _ _ _;rw [List.flatMap_append];simpa using hown
 have HG4:=aa hg;have HA4:=aa hat;have HBK4:Hid (Bk w4 g 201 (mkC (.slice A n C) K wb fors)):=(H1.later HB3.out).grown hg (fun e=>aP H2.out H1.out (by decide) e.symm);clear hown hg hat hj hj0 hj1 hj2 i0;go_wp2_with (with_reducible refine ah 42 _ _ rfl ?_)
 refine ak.go ?_;refine ae rfl 42 _ _ rfl g 0 (.slice A4 (n+1) C4) [.slice A4 (n+1) C4] rfl rfl rfl 201 [] [.slice A n C] (pgC K.p ++ [.int .i64 K.bh,.map (some wb),.int .i64 fors,.map (some K.ms),.map (some K.me)]) HBK4.out rfl rfl (by kernel_rfl) (by intro x hx;simp at hx;subst hx;rfl) ?_;intro w5 hp;have hbk:Bk w5 g 201 (mkC (.slice A4 (n+1) C4) K wb fors):=hp.bk;have HBK:=aa hbk;have HG5:=aa hp.only;have c5:w5.cell? ⟨g,0,none⟩=some (.slice A4 (n+1) C4):=hbk.cell 0;clear hp hbk;go_wp2_with fail
 go_ret;have hro:(Value.slice A4 (n+1) C4).ownBlock=o∨(Value.slice A4 (n+1) C4).ownBlock=some w3.heap.size:=by rw [←H4.out];exact HA4.out
 have hg4:w3.grownBy w4 o:=by rw [←H4.out];exact HG4.out
 obtain ⟨m,D,hmp,hmc⟩:=HM.mp;have hwo:(some wb:Option Nat)≠o:=by
  rw [←H4.out];rcases dA H2.out with ⟨e,_⟩ | ⟨q,cap,ys,e,_,hq,_⟩
  ·rw [e];simp [Value.ownBlock]
  ·rw [e];have:=dp hq hmp;simp [Value.ownBlock];exact fun e=>this e.symm
 have hkm:∀(m:Nat) (D:DataW Unit),w.ownsMap Tryz.prog 9 (plainElem Tryz.prog 3) wb m D→w5.ownsMap Tryz.prog 9 (plainElem Tryz.prog 3) wb m D:=fun m D hmp=>((hmp.kept (av HB3.out) (by simp)).kept hg4 hwo).kept HG5.out (by have:=dp H1.out hmp;intro e;injection e with e;exact this e.symm);refine ⟨by simp,_,⟨⟨A4,C4,fors,L ++ [⟨op,a,b,d⟩],HBK.out,bx HO4.out HG5.out (aP HO4.out HBK4.out (by decide)),fun i hi=>?_,rfl⟩,⟨m,D,hkm m D hmp,hmc⟩,HM.los,Nat.le_trans hbw (Nat.le_trans hg4.size HG5.size)⟩,((Fr.of HB3.out o).grow hg4 hro).bk HG5.out,hkm⟩;rcases List.mem_append.1 hi with hi | hi
 ·exact H3.out i hi
 ·simp at hi;subst hi;exact HI.out
theorem rx {x:Int} (h:(Lit.int .i64 x).wf=true):InR x:=by
 have h1:IntKind.i64.min= -9223372036854775808:=by decide
 have h2:IntKind.i64.max=9223372036854775807:=by decide
 simp only [Lit.wf,h1,h2,Bool.and_eq_true,decide_eq_true_eq] at h;unfold InR;omega
def bX:List (Int × Nat):=[(0,182),(1,183),(2,184),(3,185),(4,186),(14,187),(15,187)]
def cr:List (Int × Nat):=[(0,172),(1,173),(2,174),(3,175),(4,176),(5,177),(6,178),(7,179),(8,180),(9,181)]
def fnD (l:List (Int × Nat)):DataW Unit:=l.foldl (fun D x=>D.put (.int .i64 x.1) (.lit (.int .i64 x.2))) (.map [])
def cZ (l:List (Int × Nat)) (w:World) (b:Nat):Prop:=∃n,w.ownsMap (H:=Unit) Tryz.prog 3 fnR b n (fnD l)
theorem cZ.kept {l:List (Int × Nat)} {w w' : World} {b:Nat} {row:Option Nat} (h:cZ l w b) (hg:w.grownBy w' row) (hne:some b≠row):cZ l w' b:=by obtain ⟨n,h⟩:=h;exact ⟨n,h.kept hg hne⟩
def gt (l:List (Int × Nat)) (j:Int):Option Nat:=(l.find? (·.1 == j)).map (·.2)
theorem zi {j:Nat} (hj:j≤17):(fnD bX).atKey (.int .i64 (j:Int)) (.lit (.bool false))=(match gt bX j with | some f=>.lit (.int .i64 f) | none=>.lit (.bool false))∧Maps.has (fnD bX) (.int .i64 (j:Int))=(gt bX j).isSome:=by
 have:j=0∨j=1∨j=2∨j=3∨j=4∨j=5∨j=6∨j=7∨j=8∨j=9∨j=10∨j=11∨j=12∨j=13∨j=14∨j=15∨j=16∨j=17:=by omega
 rcases this with rfl | rfl | rfl | rfl | rfl | rfl | rfl | rfl | rfl | rfl | rfl | rfl | rfl | rfl | rfl | rfl | rfl | rfl <;> exact ⟨by kernel_rfl,by kernel_rfl⟩
theorem zj {j:Nat} (hj:j≤9):(fnD cr).atKey (.int .i64 (j:Int)) (.lit (.bool false))=(match gt cr j with | some f=>.lit (.int .i64 f) | none=>.lit (.bool false))∧(gt cr j).isSome=true:=by
 have:j=0∨j=1∨j=2∨j=3∨j=4∨j=5∨j=6∨j=7∨j=8∨j=9:=by omega
 rcases this with rfl | rfl | rfl | rfl | rfl | rfl | rfl | rfl | rfl | rfl <;> exact ⟨by kernel_rfl,by kernel_rfl⟩
theorem oz {f f' : Nat} (h:(DataW.lit (.int .i64 (f' : Int)):DataW Unit)=.lit (.int .i64 (f:Int))):f'=f:=by
 injection h with h
 injection h with _ h
 exact Int.ofNat.inj h
theorem oA {f:Nat} (h:(DataW.lit (.bool false):DataW Unit)=.lit (.int .i64 (f:Int))):False:=by
 injection h with h
 cases h
theorem cZ.look {l:List (Int × Nat)} {w:World} {b:Nat} (h:cZ l w b) {T E:TypeId} (hT:Tryz.prog.underlying T=some (.map 3 E)) (hz:(zeroValue E).run Tryz.prog w=.ok .nilFunc w) {j:Nat} (hj:j≤17):(∃v,(Instr.lookup T (.map (some b)) (.int .i64 j) true).run Tryz.prog w=.ok (.tuple #[v,.bool (Maps.has (fnD l) (.int .i64 (j:Int)))]) w∧∀f:Nat,(fnD l).atKey (.int .i64 (j:Int)) (.lit (.bool false))=.lit (.int .i64 f)→v=.func (.func f) #[] #[]):=by
 obtain ⟨n,h⟩:=h;have hwf:(Lit.int .i64 (j:Int)).wf=true:=fZ (by omega);obtain ⟨v,ps,hrun,hv⟩:=h.look_ok (int_keyed Tryz.underlying3) hT hz ow (keyOf_int_mk Tryz.underlying3 hwf);refine ⟨v,hrun,fun f hf=>?_⟩;rcases oy hv with ⟨f',rfl,hz'⟩ | hz'
 ·rw [oz ((Prod.mk.inj hz').1.symm.trans hf)]
 ·exact (oA ((Prod.mk.inj hz').1.symm.trans hf)).elim
theorem cZ.look' {l:List (Int × Nat)} {w:World} {b:Nat} (h:cZ l w b) {T E:TypeId} (hT:Tryz.prog.underlying T=some (.map 3 E)) (hz:(zeroValue E).run Tryz.prog w=.ok .nilFunc w) {j f:Nat} (hj:j≤17) (hf:(fnD l).atKey (.int .i64 (j:Int)) (.lit (.bool false))=.lit (.int .i64 f)):(Instr.lookup T (.map (some b)) (.int .i64 j) false).run Tryz.prog w=.ok (.func (.func f) #[] #[]) w:=by
 obtain ⟨n,h⟩:=h;have hwf:(Lit.int .i64 (j:Int)).wf=true:=fZ (by omega);obtain ⟨v,ps,hrun,hv⟩:=h.lookup (int_keyed Tryz.underlying3) hT hz ow (keyOf_int_mk Tryz.underlying3 hwf);rw [hrun];rcases oy hv with ⟨f',rfl,hz'⟩ | hz'
 ·rw [oz ((Prod.mk.inj hz').1.symm.trans hf)]
 ·exact (oA ((Prod.mk.inj hz').1.symm.trans hf)).elim
def tS (w:World) (b n:Nat):Prop:=∃D:DataW Unit,w.ownsMap Tryz.prog 3 (plainElem Tryz.prog 3) b n D
theorem tS.look {w:World} {b n:Nat} (h:tS w b n) {q:Int} (hq:InR q):∃x:Int,(Instr.lookup 296 (.map (some b)) (.int .i64 q) false).run Tryz.prog w=.ok (.int .i64 x) w∧InR x:=by obtain ⟨D,h⟩:=h;obtain ⟨c,hrun,hat,hw⟩:=h.lookup_int (int_keyed Tryz.underlying3) Tryz.underlying296 Tryz.underlying3 (Tryz.zeroValue3 _) (keyOf_int_mk Tryz.underlying3 (fZ hq));exact ⟨c,hrun,rx hw⟩
theorem gD {w:World} {b n:Nat} {D:DataW Unit} (h:w.ownsMap Tryz.prog 9 (plainElem Tryz.prog 3) b n D) {s:ByteArray} (hs:s.size≤1048576):∃x:Int,(Instr.lookup 195 (.map (some b)) (.string s) false).run Tryz.prog w=.ok (.int .i64 x) w∧InR x:=by obtain ⟨c,hrun,hat,hw⟩:=h.lookup_int (string_keyed Tryz.underlying9) Tryz.underlying195 Tryz.underlying3 (Tryz.zeroValue3 _) (WideMaps.keyOf_string_mk Tryz.underlying9 (s:=s) (by unfold maxLen;omega));exact ⟨c,hrun,rx hw⟩
section
variable {w:World} {ops:Array Oper} {rest:List Oper} {o:Oper} {a:Act} {Q:Exit→Act→World→Prop}
theorem aG (l:List (Int × Nat)) (q:Int) (f:Nat) {T E:TypeId} (hT:Tryz.prog.underlying T=some (.map 3 E)) (hg:o.guard=none) (m x v:Operand) (hop:o.op=Op.insert T m x v) (b:Nat) (hm:a.eval m=.map (some b)) (hx:a.eval x=.int .i64 q) (hv:a.eval v=.func (.func f) #[] #[]) (hq : -9223372036854775808≤q∧q < 9223372036854775808) (n:Nat) (h:w.ownsMap (H:=Unit) Tryz.prog 3 fnR b n (fnD l)) (hn:n < 1000) (hK:∀w',w'.ownsMap (H:=Unit) Tryz.prog 3 fnR b (n+1) (fnD (l ++ [(q,f)]))→w.grownBy w' (some b)→ak (wpList Tryz.prog ops Q rest (a.put o.dst undef) w')):wpList Tryz.prog ops Q (o :: rest) a w:=by
 refine eQ hg m x v T hop 3 E (int_keyed Tryz.underlying3) hT fnR b n (fnD l) hm h (by unfold maxLen;omega) _ _ _ hx hv (keyOf_int_mk Tryz.underlying3 (fZ hq)) _ [] (rv f) fun w' h1 h2=>hK w' ?_ h2.grown;have:fnD (l ++ [(q,f)])=(fnD l).put (.int .i64 q) (.lit (.int .i64 f)):=by unfold fnD;rw [List.foldl_append];rfl
 rw [this];exact h1
theorem bP (hg:o.guard=none) (m x v:Operand) (hop:o.op=Op.insert 296 m x v) (b n:Nat) (hm:a.eval m=.map (some b)) (q r:Int) (hx:a.eval x=.int .i64 q) (hv:a.eval v=.int .i64 r) (hq : -9223372036854775808≤q∧q < 9223372036854775808) (hr : -9223372036854775808≤r∧r < 9223372036854775808) (h:tS w b n) (hn:n < 1000) (hK:∀w',tS w' b (n+1)→w.grownBy w' (some b)→ak (wpList Tryz.prog ops Q rest (a.put o.dst undef) w')):wpList Tryz.prog ops Q (o :: rest) a w:=by obtain ⟨D,h⟩:=h;exact eQ hg m x v _ hop 3 3 (int_keyed Tryz.underlying3) Tryz.underlying296 (plainElem Tryz.prog 3) b n D hm h (by unfold maxLen;omega) _ _ _ hx hv (keyOf_int_mk Tryz.underlying3 (fZ hq)) _ [] (plainElem_int Tryz.underlying3 (fZ hr)) fun w' h1 h2=>hK w' ⟨_,h1⟩ h2.grown
end
set_option maxRecDepth 20000 in
theorem fA (w:World):Calls Tryz.prog 116 #[] w fun e w'=>(∃b,e=.returned (.map (some b))∧cZ bX w' b∧w.heap.size≤b)∧Below w.heap.size w w':=by
 obtain ⟨z,hz⟩:∃z,w.heap.size=z:=⟨_,rfl⟩;obtain ⟨w0,hw0⟩:∃w0,w.alloc (.map #[] 0)=w0:=⟨_,rfl⟩;have hmm:=run_makeMap (P:=Tryz.prog) 198 w;rw [hw0,hz] at hmm;have HB0:Hid (Below w.heap.size w w0):=hw0▸ai w _;have HZ:=aa hz;have HM0:Hid (World.ownsMap (H:=Unit) w0 Tryz.prog 3 fnR z 0 (fnD (bX.take 0))):=by show World.ownsMap _ _ _ _ _ _ _;rw [←hw0,←hz];exact World.ownsMap_made w _ _ _
 clear hw0 hz;go_enter Tryz.func116,Tryz.ntmps116;go_wp2_with (refine aG (bX.take 0) _ _ Tryz.underlying198 rfl _ _ _ rfl z rfl rfl rfl (by decide) 0 HM0.out (by decide) ?_;intro w1 hm9 hg9;have HM1:Hid (World.ownsMap (H:=Unit) w1 Tryz.prog 3 fnR z 1 (fnD (bX.take 1))):=hm9;have HB1:=aa (ag HB0.out hg9 HB0.size (by have:=HZ.out;omega));clear hm9 hg9)
 refine ak.go ?_;go_wp2_with (refine aG (bX.take 1) _ _ Tryz.underlying198 rfl _ _ _ rfl z rfl rfl rfl (by decide) 1 HM1.out (by decide) ?_;intro w2 hm9 hg9;have HM2:Hid (World.ownsMap (H:=Unit) w2 Tryz.prog 3 fnR z 2 (fnD (bX.take 2))):=hm9;have HB2:=aa (ag HB1.out hg9 HB1.size (by have:=HZ.out;omega));clear hm9 hg9)
 refine ak.go ?_;go_wp2_with (refine aG (bX.take 2) _ _ Tryz.underlying198 rfl _ _ _ rfl z rfl rfl rfl (by decide) 2 HM2.out (by decide) ?_;intro w3 hm9 hg9;have HM3:Hid (World.ownsMap (H:=Unit) w3 Tryz.prog 3 fnR z 3 (fnD (bX.take 3))):=hm9;have HB3:=aa (ag HB2.out hg9 HB2.size (by have:=HZ.out;omega));clear hm9 hg9)
 refine ak.go ?_;go_wp2_with (refine aG (bX.take 3) _ _ Tryz.underlying198 rfl _ _ _ rfl z rfl rfl rfl (by decide) 3 HM3.out (by decide) ?_;intro w4 hm9 hg9;have HM4:Hid (World.ownsMap (H:=Unit) w4 Tryz.prog 3 fnR z 4 (fnD (bX.take 4))):=hm9;have HB4:=aa (ag HB3.out hg9 HB3.size (by have:=HZ.out;omega));clear hm9 hg9)
 refine ak.go ?_;go_wp2_with (refine aG (bX.take 4) _ _ Tryz.underlying198 rfl _ _ _ rfl z rfl rfl rfl (by decide) 4 HM4.out (by decide) ?_;intro w5 hm9 hg9;have HM5:Hid (World.ownsMap (H:=Unit) w5 Tryz.prog 3 fnR z 5 (fnD (bX.take 5))):=hm9;have HB5:=aa (ag HB4.out hg9 HB4.size (by have:=HZ.out;omega));clear hm9 hg9)
 refine ak.go ?_;go_wp2_with (refine aG (bX.take 5) _ _ Tryz.underlying198 rfl _ _ _ rfl z rfl rfl rfl (by decide) 5 HM5.out (by decide) ?_;intro w6 hm9 hg9;have HM6:Hid (World.ownsMap (H:=Unit) w6 Tryz.prog 3 fnR z 6 (fnD (bX.take 6))):=hm9;have HB6:=aa (ag HB5.out hg9 HB5.size (by have:=HZ.out;omega));clear hm9 hg9)
 refine ak.go ?_;go_wp2_with (refine aG (bX.take 6) _ _ Tryz.underlying198 rfl _ _ _ rfl z rfl rfl rfl (by decide) 6 HM6.out (by decide) ?_;intro w7 hm9 hg9;have HM7:Hid (World.ownsMap (H:=Unit) w7 Tryz.prog 3 fnR z 7 (fnD (bX.take 7))):=hm9;have HB7:=aa (ag HB6.out hg9 HB6.size (by have:=HZ.out;omega));clear hm9 hg9)
 refine ak.go ?_;go_wp2_with fail
 go_ret;exact ⟨⟨z,rfl,⟨7,HM7.out⟩,Nat.le_of_eq HZ.out⟩,HB7.out⟩
set_option maxRecDepth 20000 in
theorem iG (w:World):Calls Tryz.prog 115 #[] w fun e w'=>(∃b,e=.returned (.map (some b))∧cZ cr w' b∧w.heap.size≤b)∧Below w.heap.size w w':=by
 obtain ⟨z,hz⟩:∃z,w.heap.size=z:=⟨_,rfl⟩;obtain ⟨w0,hw0⟩:∃w0,w.alloc (.map #[] 0)=w0:=⟨_,rfl⟩;have hmm:=run_makeMap (P:=Tryz.prog) 196 w;rw [hw0,hz] at hmm;have HB0:Hid (Below w.heap.size w w0):=hw0▸ai w _;have HZ:=aa hz;have HM0:Hid (World.ownsMap (H:=Unit) w0 Tryz.prog 3 fnR z 0 (fnD (cr.take 0))):=by show World.ownsMap _ _ _ _ _ _ _;rw [←hw0,←hz];exact World.ownsMap_made w _ _ _
 clear hw0 hz;go_enter Tryz.func115,Tryz.ntmps115;go_wp2_with (refine aG (cr.take 0) _ _ Tryz.underlying196 rfl _ _ _ rfl z rfl rfl rfl (by decide) 0 HM0.out (by decide) ?_;intro w1 hm9 hg9;have HM1:Hid (World.ownsMap (H:=Unit) w1 Tryz.prog 3 fnR z 1 (fnD (cr.take 1))):=hm9;have HB1:=aa (ag HB0.out hg9 HB0.size (by have:=HZ.out;omega));clear hm9 hg9)
 refine ak.go ?_;go_wp2_with (refine aG (cr.take 1) _ _ Tryz.underlying196 rfl _ _ _ rfl z rfl rfl rfl (by decide) 1 HM1.out (by decide) ?_;intro w2 hm9 hg9;have HM2:Hid (World.ownsMap (H:=Unit) w2 Tryz.prog 3 fnR z 2 (fnD (cr.take 2))):=hm9;have HB2:=aa (ag HB1.out hg9 HB1.size (by have:=HZ.out;omega));clear hm9 hg9)
 refine ak.go ?_;go_wp2_with (refine aG (cr.take 2) _ _ Tryz.underlying196 rfl _ _ _ rfl z rfl rfl rfl (by decide) 2 HM2.out (by decide) ?_;intro w3 hm9 hg9;have HM3:Hid (World.ownsMap (H:=Unit) w3 Tryz.prog 3 fnR z 3 (fnD (cr.take 3))):=hm9;have HB3:=aa (ag HB2.out hg9 HB2.size (by have:=HZ.out;omega));clear hm9 hg9)
 refine ak.go ?_;go_wp2_with (refine aG (cr.take 3) _ _ Tryz.underlying196 rfl _ _ _ rfl z rfl rfl rfl (by decide) 3 HM3.out (by decide) ?_;intro w4 hm9 hg9;have HM4:Hid (World.ownsMap (H:=Unit) w4 Tryz.prog 3 fnR z 4 (fnD (cr.take 4))):=hm9;have HB4:=aa (ag HB3.out hg9 HB3.size (by have:=HZ.out;omega));clear hm9 hg9)
 refine ak.go ?_;go_wp2_with (refine aG (cr.take 4) _ _ Tryz.underlying196 rfl _ _ _ rfl z rfl rfl rfl (by decide) 4 HM4.out (by decide) ?_;intro w5 hm9 hg9;have HM5:Hid (World.ownsMap (H:=Unit) w5 Tryz.prog 3 fnR z 5 (fnD (cr.take 5))):=hm9;have HB5:=aa (ag HB4.out hg9 HB4.size (by have:=HZ.out;omega));clear hm9 hg9)
 refine ak.go ?_;go_wp2_with (refine aG (cr.take 5) _ _ Tryz.underlying196 rfl _ _ _ rfl z rfl rfl rfl (by decide) 5 HM5.out (by decide) ?_;intro w6 hm9 hg9;have HM6:Hid (World.ownsMap (H:=Unit) w6 Tryz.prog 3 fnR z 6 (fnD (cr.take 6))):=hm9;have HB6:=aa (ag HB5.out hg9 HB5.size (by have:=HZ.out;omega));clear hm9 hg9)
 refine ak.go ?_;go_wp2_with (refine aG (cr.take 6) _ _ Tryz.underlying196 rfl _ _ _ rfl z rfl rfl rfl (by decide) 6 HM6.out (by decide) ?_;intro w7 hm9 hg9;have HM7:Hid (World.ownsMap (H:=Unit) w7 Tryz.prog 3 fnR z 7 (fnD (cr.take 7))):=hm9;have HB7:=aa (ag HB6.out hg9 HB6.size (by have:=HZ.out;omega));clear hm9 hg9)
 refine ak.go ?_;go_wp2_with (refine aG (cr.take 7) _ _ Tryz.underlying196 rfl _ _ _ rfl z rfl rfl rfl (by decide) 7 HM7.out (by decide) ?_;intro w8 hm9 hg9;have HM8:Hid (World.ownsMap (H:=Unit) w8 Tryz.prog 3 fnR z 8 (fnD (cr.take 8))):=hm9;have HB8:=aa (ag HB7.out hg9 HB7.size (by have:=HZ.out;omega));clear hm9 hg9)
 refine ak.go ?_;go_wp2_with (refine aG (cr.take 8) _ _ Tryz.underlying196 rfl _ _ _ rfl z rfl rfl rfl (by decide) 8 HM8.out (by decide) ?_;intro w9 hm9 hg9;have HM9:Hid (World.ownsMap (H:=Unit) w9 Tryz.prog 3 fnR z 9 (fnD (cr.take 9))):=hm9;have HB9:=aa (ag HB8.out hg9 HB8.size (by have:=HZ.out;omega));clear hm9 hg9)
 refine ak.go ?_;go_wp2_with (refine aG (cr.take 9) _ _ Tryz.underlying196 rfl _ _ _ rfl z rfl rfl rfl (by decide) 9 HM9.out (by decide) ?_;intro w10 hm9 hg9;have HM10:Hid (World.ownsMap (H:=Unit) w10 Tryz.prog 3 fnR z 10 (fnD (cr.take 10))):=hm9;have HB10:=aa (ag HB9.out hg9 HB9.size (by have:=HZ.out;omega));clear hm9 hg9)
 refine ak.go ?_;go_wp2_with fail
 go_ret;exact ⟨⟨z,rfl,⟨10,HM10.out⟩,Nat.le_of_eq HZ.out⟩,HB10.out⟩
set_option maxRecDepth 20000 in
theorem tT (w:World):Calls Tryz.prog 243 #[] w fun e w'=>(∃b,e=.returned (.map (some b))∧tS w' b 13∧w.heap.size≤b)∧Below w.heap.size w w':=by
 obtain ⟨z,hz⟩:∃z,w.heap.size=z:=⟨_,rfl⟩;obtain ⟨w0,hw0⟩:∃w0,w.alloc (.map #[] 0)=w0:=⟨_,rfl⟩;have hmm:=run_makeMap (P:=Tryz.prog) 296 w;rw [hw0,hz] at hmm;have HB0:Hid (Below w.heap.size w w0):=hw0▸ai w _;have HZ:=aa hz;have HM0:Hid (tS w0 z 0):=⟨.map [],by rw [←hw0,←hz];exact World.ownsMap_made w _ _ _⟩;clear hw0 hz;go_enter Tryz.func243,Tryz.ntmps243;go_wp2_with (refine bP rfl _ _ _ rfl z 0 rfl _ _ rfl rfl (by decide) (by decide) HM0.out (by decide) ?_;intro w1 hm9 hg9;have HM1:=aa hm9;have HB1:=aa (ag HB0.out hg9 HB0.size (by have:=HZ.out;omega));clear hm9 hg9)
 refine ak.go ?_;go_wp2_with (refine bP rfl _ _ _ rfl z 1 rfl _ _ rfl rfl (by decide) (by decide) HM1.out (by decide) ?_;intro w2 hm9 hg9;have HM2:=aa hm9;have HB2:=aa (ag HB1.out hg9 HB1.size (by have:=HZ.out;omega));clear hm9 hg9)
 refine ak.go ?_;go_wp2_with (refine bP rfl _ _ _ rfl z 2 rfl _ _ rfl rfl (by decide) (by decide) HM2.out (by decide) ?_;intro w3 hm9 hg9;have HM3:=aa hm9;have HB3:=aa (ag HB2.out hg9 HB2.size (by have:=HZ.out;omega));clear hm9 hg9)
 refine ak.go ?_;go_wp2_with (refine bP rfl _ _ _ rfl z 3 rfl _ _ rfl rfl (by decide) (by decide) HM3.out (by decide) ?_;intro w4 hm9 hg9;have HM4:=aa hm9;have HB4:=aa (ag HB3.out hg9 HB3.size (by have:=HZ.out;omega));clear hm9 hg9)
 refine ak.go ?_;go_wp2_with (refine bP rfl _ _ _ rfl z 4 rfl _ _ rfl rfl (by decide) (by decide) HM4.out (by decide) ?_;intro w5 hm9 hg9;have HM5:=aa hm9;have HB5:=aa (ag HB4.out hg9 HB4.size (by have:=HZ.out;omega));clear hm9 hg9)
 refine ak.go ?_;go_wp2_with (refine bP rfl _ _ _ rfl z 5 rfl _ _ rfl rfl (by decide) (by decide) HM5.out (by decide) ?_;intro w6 hm9 hg9;have HM6:=aa hm9;have HB6:=aa (ag HB5.out hg9 HB5.size (by have:=HZ.out;omega));clear hm9 hg9)
 refine ak.go ?_;go_wp2_with (refine bP rfl _ _ _ rfl z 6 rfl _ _ rfl rfl (by decide) (by decide) HM6.out (by decide) ?_;intro w7 hm9 hg9;have HM7:=aa hm9;have HB7:=aa (ag HB6.out hg9 HB6.size (by have:=HZ.out;omega));clear hm9 hg9)
 refine ak.go ?_;go_wp2_with (refine bP rfl _ _ _ rfl z 7 rfl _ _ rfl rfl (by decide) (by decide) HM7.out (by decide) ?_;intro w8 hm9 hg9;have HM8:=aa hm9;have HB8:=aa (ag HB7.out hg9 HB7.size (by have:=HZ.out;omega));clear hm9 hg9)
 refine ak.go ?_;go_wp2_with (refine bP rfl _ _ _ rfl z 8 rfl _ _ rfl rfl (by decide) (by decide) HM8.out (by decide) ?_;intro w9 hm9 hg9;have HM9:=aa hm9;have HB9:=aa (ag HB8.out hg9 HB8.size (by have:=HZ.out;omega));clear hm9 hg9)
 refine ak.go ?_;go_wp2_with (refine bP rfl _ _ _ rfl z 9 rfl _ _ rfl rfl (by decide) (by decide) HM9.out (by decide) ?_;intro w10 hm9 hg9;have HM10:=aa hm9;have HB10:=aa (ag HB9.out hg9 HB9.size (by have:=HZ.out;omega));clear hm9 hg9)
 refine ak.go ?_;go_wp2_with (refine bP rfl _ _ _ rfl z 10 rfl _ _ rfl rfl (by decide) (by decide) HM10.out (by decide) ?_;intro w11 hm9 hg9;have HM11:=aa hm9;have HB11:=aa (ag HB10.out hg9 HB10.size (by have:=HZ.out;omega));clear hm9 hg9)
 refine ak.go ?_;go_wp2_with (refine bP rfl _ _ _ rfl z 11 rfl _ _ rfl rfl (by decide) (by decide) HM11.out (by decide) ?_;intro w12 hm9 hg9;have HM12:=aa hm9;have HB12:=aa (ag HB11.out hg9 HB11.size (by have:=HZ.out;omega));clear hm9 hg9)
 refine ak.go ?_;go_wp2_with (refine bP rfl _ _ _ rfl z 12 rfl _ _ rfl rfl (by decide) (by decide) HM12.out (by decide) ?_;intro w13 hm9 hg9;have HM13:=aa hm9;have HB13:=aa (ag HB12.out hg9 HB12.size (by have:=HZ.out;omega));clear hm9 hg9)
 refine ak.go ?_;go_wp2_with fail
 go_ret;exact ⟨⟨z,rfl,HM13.out,Nat.le_of_eq HZ.out⟩,HB13.out⟩
theorem cZ.at_ {l:List (Int × Nat)} {w w' : World} {b:Nat} (h:cZ l w b) (hb:w'.heap[b]?=w.heap[b]?):cZ l w' b:=by obtain ⟨n,es,clock,h1,h2⟩:=h;exact ⟨n,es,clock,by rw [hb];exact h1,h2⟩
theorem cZ.lt {l:List (Int × Nat)} {w:World} {b:Nat} (h:cZ l w b):b < w.heap.size:=by obtain ⟨n,h⟩:=h;exact h.lt
theorem cZ.ne {l:List (Int × Nat)} {w:World} {b g:Nat} {T:TypeId} {cs:List Value} (h:cZ l w b) (hk:Bk w g T cs):g≠b:=by obtain ⟨n,h⟩:=h;exact dp hk h
structure MkA (w:World) (lo g wb n c:Nat) (K:MkK) (o:Option Nat):Prop where
 m:Mk w lo g wb n c K o
 st:cZ cr w K.ms
 ex:cZ bX w K.me
 ne:K.ms≠wb∧K.me≠wb
 pg:cI w lo K.p
section
variable {w w' : World} {lo g wb n c n' c' : Nat} {K:MkK} {o o' : Option Nat}
theorem MkA.go (h:MkA w lo g wb n c K o) (hm:Mk w' lo g wb n' c' K o') (hf:Fr g wb w w' o o'):MkA w' lo g wb n' c' K o':=by
 obtain ⟨A,C,fors,L,h1,h2,h3,h4⟩:=h.m.bk;have hne:∀{l:List (Int × Nat)} {b:Nat},cZ l w b→b≠wb→cZ l w' b:=fun {l b} hb hw=>hb.at_ (hf.blk b hb.lt (fun e=>hb.ne h1 e.symm) hw (by
  rw [←h4];rcases dA h2 with ⟨e,_⟩ | ⟨q,cap,ys,e,_,hq,_⟩
  ·rw [e];simp [Value.ownBlock]
  ·rw [e];have:=hb.ne hq;simp [Value.ownBlock];exact fun e=>this e.symm))
 exact ⟨hm,hne h.st h.ne.1,hne h.ex h.ne.2,h.ne,h.pg.below (h.m.below hf)⟩
theorem MkA.later (h:MkA w lo g wb n c K o) (hb:Below w.heap.size w w'):MkA w' lo g wb n c K o:=h.go (h.m.later hb) (Fr.of hb o)
theorem MkA.more (h:MkA w lo g wb n c K o) (hc:c≤c'):MkA w lo g wb n c' K o:=⟨h.m.more hc,h.st,h.ex,h.ne,h.pg⟩
theorem Mk.cell (h:Mk w lo g wb n c K o) {j:Nat} {v:Value} (hv:(pgC K.p ++ [.int .i64 K.bh,.map (some wb)])[j]?=some v):w.cell? ⟨g,j+1,none⟩=some v:=by obtain ⟨A,C,fors,L,h1,h2,h3,h4⟩:=h.bk;have:=h1.cell (j+1);rw [this];unfold mkC;rw [List.getElem?_cons_succ];have hl:j < (pgC K.p ++ [Value.int .i64 K.bh,.map (some wb)]).length:=(List.getElem?_eq_some_iff.1 hv).1;rw [show pgC K.p ++ [Value.int .i64 K.bh,.map (some wb),.int .i64 fors,.map (some K.ms),.map (some K.me)]=(pgC K.p ++ [Value.int .i64 K.bh,.map (some wb)]) ++ [.int .i64 fors,.map (some K.ms),.map (some K.me)] by simp,List.getElem?_append_left hl];exact hv
theorem Mk.c12 (h:Mk w lo g wb n c K o):w.cell? ⟨g,12,none⟩=some (.int .i64 K.bh):=h.cell (j:=11) rfl
theorem Mk.c13 (h:Mk w lo g wb n c K o):w.cell? ⟨g,13,none⟩=some (.map (some wb)):=h.cell (j:=12) rfl
theorem Mk.c2 (h:Mk w lo g wb n c K o):w.cell? ⟨g,2,none⟩=some (.int .i64 K.p.seats):=h.cell (j:=1) rfl
theorem Mk.c15 (h:Mk w lo g wb n c K o):w.cell? ⟨g,15,none⟩=some (.map (some K.ms))∧w.cell? ⟨g,16,none⟩=some (.map (some K.me)):=by obtain ⟨A,C,fors,L,h1,h2,h3,h4⟩:=h.bk;exact ⟨h1.cell 15,h1.cell 16⟩
theorem Mk.prog (h:Mk w lo g wb n c K o):w.rangeAt g 1 (pgC K.p):=by intro j v hv;have:=h.cell (j:=j) (v:=v) (by rw [List.getElem?_append_left (List.getElem?_eq_some_iff.1 hv).1];exact hv);rwa [Nat.add_comm] at this
theorem Mk.len (h:Mk w lo g wb n c K o):∃(A:Option Addr) (C:Nat),w.cell? ⟨g,0,none⟩=some (.slice A n C):=by obtain ⟨A,C,fors,L,h1,h2,h3,h4⟩:=h.bk;exact ⟨A,C,h1.cell 0⟩
end
def oB (lo g wb n c:Nat) (K:MkK) (o:Option Nat) (w:World) (B cB:Nat) (e:Ending) (w' : World):Prop:=e=.returned (.tuple #[])∧∃n' o',n≤n'∧n'≤n+B∧MkA w' lo g wb n' (c+cB) K o'∧Fr g wb w w' o o'
theorem aL (w:World) (lo g wb n c:Nat) (K:MkK) (o:Option Nat) (h:MkA w lo g wb n c K o) (op a b d:Int) (hi:eB ⟨op,a,b,d⟩) (hn:n≤4096):Calls Tryz.prog 119 #[.pointer (some ⟨g,0,none⟩),.int .i64 op,.int .i64 a,.int .i64 b,.int .i64 d] w fun e w'=>e=.returned (.int .i64 n)∧∃o',MkA w' lo g wb (n+1) c K o'∧Fr g wb w w' o o'∧∀(m:Nat) (D:DataW Unit),w.ownsMap Tryz.prog 9 (plainElem Tryz.prog 3) wb m D→w'.ownsMap Tryz.prog 9 (plainElem Tryz.prog 3) wb m D:=
 (yj w lo g wb n c K o h.m op a b d hi hn).mono fun e w' ⟨h1,o',h2,h3,h4⟩=>⟨h1,o',h.go h2 h3,h3,h4⟩
def frV (bh i:Int):Int:=wrap64 (wrap64 (bh+33)+i)
theorem vX (x:Int):InR (wrap64 x):=by rw [←IntWalk.i64_left];exact pZ x
theorem aZ (bh i:Int):InR (frV bh i):=vX _
theorem bt (w:World) (g:Nat) (bh i:Int) (h:w.cell? ⟨g,12,none⟩=some (.int .i64 bh)):Calls Tryz.prog 221 #[.pointer (some ⟨g,0,none⟩),.int .i64 i] w fun e w'=>e=.returned (.int .i64 (frV bh i))∧w=w':=by
 unfold frV;go_enter Tryz.func221,Tryz.ntmps221;go_wp2_with fail
 go_ret;exact ⟨by simp,rfl⟩
theorem yk {L:List aX} {j:Nat} (hj:j < L.length):∃(L1:List aX) (i:aX) (L2:List aX),L=L1 ++ i :: L2∧L1.length=j∧(L1.flatMap ay).length=j*4:=by
 refine ⟨L.take j,L[j],L.drop (j+1),by rw [List.getElem_cons_drop,List.take_append_drop],by simp;omega,?_⟩;have:∀M:List aX,(M.flatMap ay).length=M.length*4:=fun M=>by
  induction M with
  | nil=>rfl
  | cons x M ih=>rw [List.flatMap_cons,List.length_append,ih,List.length_cons];simp [ay];omega
 rw [this];simp;omega
theorem eC (M:List aX):(M.flatMap ay).length=M.length*4:=by
 induction M with
 | nil=>rfl
 | cons x M ih=>rw [List.flatMap_cons,List.length_append,ih,List.length_cons];simp [ay];omega
set_option maxRecDepth 20000 in
theorem ke (w:World) (lo g wb n c:Nat) (K:MkK) (o:Option Nat) (h:MkA w lo g wb n c K o) (j:Nat) (hj:j < n) (hn:n≤4096):Calls Tryz.prog 222 #[.pointer (some ⟨g,0,none⟩),.int .i64 j] w fun e w'=>e=.returned (.tuple #[])∧MkA w' lo g wb n c K o∧Fr g wb w w' o o:=by
 obtain ⟨A,C,fors,L,h1,h2,h3,h4⟩:=h.m.bk;have hL:L.length=n:=by have:=h2.1;rw [eC] at this;omega
 obtain ⟨L1,i,L2,hLe,hl1,hl4⟩:=yk (L:=L) (j:=j) (by omega);obtain ⟨b,cap,ys,hv,hlb,hbk,hnc,hcm,hyl,hyt⟩:∃b cap ys,Value.slice A n C=.slice (some ⟨b,0,none⟩) n cap∧lo≤b∧Bk w b 51 ys∧n≤cap∧cap≤9223372036854775807∧ys.length=cap*4∧ys.take (n*4)=L.flatMap ay:=by
  rcases dA h2 with ⟨_,h0,_⟩ | h
  ·omega
  ·exact h
 injection hv with hA _ hC
 subst hA hC;have hys:ys=(L1.flatMap ay ++ [.int .i64 i.op]) ++ ([.int .i64 i.a] ++ ([.int .i64 i.b,.int .i64 i.c] ++ L2.flatMap ay ++ ys.drop (n*4))):=by
  conv=>lhs;rw [←List.take_append_drop (n*4) ys,hyt,hLe]
  simp [ay]
 have HM:=aa h;have HBK:Hid (Bk w b 51 ((L1.flatMap ay ++ [.int .i64 i.op]) ++ ([.int .i64 i.a] ++ ([.int .i64 i.b,.int .i64 i.c] ++ L2.flatMap ay ++ ys.drop (n*4))))):=by rw [←hys];exact hbk
 have H1:=aa h1;have H3:=aa h3;have H4:=aa h4;have HL4:=aa hl4;have HLE:=aa hLe;have HYL:=aa hyl;have HLB:=aa hlb;have HNC:Hid (n≤C∧C≤9223372036854775807):=⟨hnc,hcm⟩;have HL1:=aa hl1;have HLL:=aa hL;have c0:w.cell? ⟨g,0,none⟩=some (.slice (some ⟨b,0,none⟩) n C):=h1.cell 0;have hjn:(j:Int) < n:=by omega
 clear h h1 h2 h3 h4 hys hbk hyt hLe hl4 hyl hl1 hnc hcm hL hlb;go_enter Tryz.func222,Tryz.ntmps222;refine wp_region_held_drew (S:=fun wk=>wk.cell? ⟨g,0,none⟩=some (.slice (some ⟨b,0,none⟩) n C)) (by kernel_rfl) c0 (fun hHeld=>?_);obtain ⟨w1,hw1⟩:∃wa,w.drew=wa:=⟨_,rfl⟩;have hb1:Below w.heap.size w w1:=hw1▸ac w w.heap.size 1;rw [hw1] at hHeld ⊢;have HB1:=aa hb1;clear hw1 hb1;refine tk 0 ?_;refine tk 4 ?_;refine tk 5 ?_;refine tk 1 ?_;refine tk 6 ?_;refine tk 2 ?_;refine tk 7 ?_;refine tkv 3 rfl (fun w hSw=>by have hcell:=hSw;clear hSw;go_simp;try with_reducible rfl) ?_;refine tkv 8 rfl (fun w hSw=>by have hcell:=hSw;clear hSw;go_simp;try with_reducible rfl) ?_;refine tk 9 ?_;refine tk 10 ?_;refine tk 11 ?_;have HBK1:=aa (HBK.later HB1.out);refine rdw 12 (fun K hK=>?_);refine au _ _ _ rfl b (j*4+1) _ ([.int .i64 n]) rfl rfl rfl _ ((L1.flatMap ay ++ [.int .i64 i.op])) ([.int .i64 i.a]) (([.int .i64 i.b,.int .i64 i.c] ++ L2.flatMap ay ++ ys.drop (n*4))) HBK1.out (by rw [List.length_append,HL4.out];rfl) rfl (by kernel_rfl) (by intro x hx;simp at hx;subst hx;rfl) ?_;intro w5 hp;refine so hK (((H1.later HB1.out).grown hp.only (by intro e;injection e with e;exact H1.ne_ HBK.out (by decide) e)).cell 0) (fun hHeld=>?_);clear hK K;refine wpAnyH_done rfl ?_ _;have hbk5:=hp.bk;have HG5:=aa hp.only;have HBK5:=aa hbk5;clear hp hbk5;go_wp2_with fail
 refine bodyPost_end (results_none rfl _ _ _) rfl ?_;obtain ⟨m,D,hm,hmc⟩:=HM.m.mp;have hgb:g≠b:=H1.ne_ HBK.out (by decide);have hob:o=some b:=by rw [←H4.out];rfl
 have hF:Fr g wb w w5 o o:=by rw [hob];exact (Fr.of HB1.out (some b)).grow HG5.out (.inl rfl)
 refine ⟨rfl,HM.go ⟨⟨some ⟨b,0,none⟩,C,fors,L1 ++ ⟨i.op,n,i.b,i.c⟩ :: L2,(H1.later HB1.out).grown HG5.out (by intro e;injection e with e;exact hgb e),?_,fun x hx=>?_,H4.out⟩,⟨m,D,(hm.kept (av HB1.out) (by simp)).kept HG5.out (by intro e;injection e with e;exact dp HBK.out hm e.symm),hmc⟩,HM.m.los,Nat.le_trans HM.m.hp (Nat.le_trans HB1.size HG5.size)⟩ hF,hF⟩
 ·refine HBK5.own HLB.out HNC.out.1 HNC.out.2 ?_ ?_
  ·have h1:=HYL.out;have h2:=HL4.out;have h3:=eC L2;have h4:=HLL.out;have h5:=HLE.out;have h6:L1.length+(L2.length+1)=n:=by rw [←h4,h5];simp
   have:=HL1.out;have:=HNC.out.1;simp only [List.length_append,List.length_cons,List.length_nil,List.length_drop,h1,h2,h3];omega
  ·have h2:=HL4.out;have h3:=eC L2;have h5:=HLE.out;have h6:L1.length+(L2.length+1)=n:=by rw [←HLL.out,h5];simp
   have h7:=HL1.out;have e:(L1.flatMap ay ++ [Value.int .i64 i.op]) ++ ([Value.int .i64 (n:Int)] ++ ([Value.int .i64 i.b,.int .i64 i.c] ++ L2.flatMap ay ++ ys.drop (n*4)))=(L1 ++ (⟨i.op,n,i.b,i.c⟩:aX) :: L2).flatMap ay ++ ys.drop (n*4):=by simp [ay]
   rw [e,List.take_append_of_le_length (by rw [eC];simp;omega),List.take_of_length_le (by rw [eC];simp;omega)]
 ·have h3:=H3.out;rw [HLE.out] at h3;rcases List.mem_append.1 hx with hx | hx
  ·exact h3 x (by simp [hx])
  ·rcases List.mem_cons.1 hx with rfl | hx
   ·have hi:=h3 i (by simp);exact ⟨hi.1,(show InR (n:Int) from ⟨by omega,by omega⟩),hi.2.2.1,hi.2.2.2⟩
   ·exact h3 x (by simp [hx])
end Go.Proofs.YtllbdpdnpaocnaaGreatDoor
