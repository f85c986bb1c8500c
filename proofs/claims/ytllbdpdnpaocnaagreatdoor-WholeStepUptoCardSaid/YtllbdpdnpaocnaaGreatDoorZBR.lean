/- Part of the proof of WholeStep. -/
import Derived.Test.YtllbdpdnpaocnaaGreatDoorZBQ
import Derived.ProofKit
import Derived.LaidMore
import Derived.OpenShut
import Derived.Lib.LaidTab
import Derived.Deep.DeepWitnessRowRef
namespace Go.Proofs.YtllbdpdnpaocnaaGreatDoor
set_option linter.unusedSimpArgs false
set_option linter.unusedVariables false
set_option linter.constructorNameAsVariable false
open Go.ChangeShapes Go.WideShapes Go.ChangeAt Go.RowKit Go.Deep
theorem zd {H:Type} {W:World} {a:Addr} : ∀(l:List (DataW H)) (k:Nat),(∀i d,l[i]?=some d→∃kd nm A N C E lo hi A1 N1 C1 L A2 N2 C2 M,(∀j u,(aR kd nm A N C lo hi A1 N1 C1 A2 N2 C2)[j]?=some u→W.cell? (a.add ((k+i)*7+j))=some u)∧iA W W.heap.size kd nm A N C E lo hi A1 N1 C1 L A2 N2 C2 M∧E.size+L.size+M.size+1≤Rows.uptoBulk d)→∃F:Ss,F.len=l.length∧F.Ok∧F.At W W.heap.size∧(∀j u,F.cells[j]?=some u→W.cell? (a.add (k*7+j))=some u)∧F.size≤Rows.uptoBulkAll l
 | [],k,_=>⟨.nil,rfl,trivial,trivial,by intro j u h;simp [Ss.cells] at h,by simp [Ss.size]⟩
 | d :: l,k,h=>by
  obtain ⟨kd,nm,A,N,C,E,lo,hi,A1,N1,C1,L,A2,N2,C2,M,hc,hS,hsz⟩:=h 0 d rfl;obtain ⟨F,h1,h2,h3,h4,h5⟩:=zd l (k+1) (fun i d' hd=>by
   have:=h (i+1) d' (by simpa using hd);rwa [show k+(i+1)=k+1+i by omega] at this)
  refine ⟨.cons kd nm A N C E lo hi A1 N1 C1 L A2 N2 C2 M F,by simp [Ss.len,h1],⟨hS.kd,hS.nm,hS.lo,hS.hi,⟨hS.ec,hS.lc,hS.mc⟩,⟨hS.e.len,hS.l.len,hS.m.len⟩,hS.e.ok,hS.l.ok,hS.m.ok,h2⟩,⟨⟨hS.e.sl,hS.e.at_⟩,⟨hS.l.sl,hS.l.at_⟩,⟨hS.m.sl,hS.m.at_⟩,h3⟩,fun j u hu=>?_,by simp only [Ss.size,Rows.uptoBulkAll];omega⟩;rw [Ss.cells] at hu;by_cases hj:j < 7
  ·rw [List.getElem?_append_left (by simpa [aR] using hj)] at hu;exact hc j u hu
  ·rw [List.getElem?_append_right (by simp [aR];omega)] at hu;have:=h4 _ u hu;rwa [show (k+1)*7+(j - (aR kd nm A N C lo hi A1 N1 C1 A2 N2 C2).length)=k*7+j by simp [aR];omega] at this
theorem dd {l:List Value} {k:Nat} (h:(l.drop k).length ≥ 1):∃v,List.take 1 (List.drop k l)=[v]:=by
 match hq:List.drop k l,h with
 | u :: _,_=>exact ⟨u,rfl⟩
set_option maxRecDepth 20000 in
set_option maxHeartbeats 1000000 in
theorem j6 {H:Type} {enc:TypeId × Value→H} {W:World} (fuel:Nat):∀(v:Value) (y:DataW H × List MemPlace),DataW.trod enc Tryz.prog W 0 (fun _=>true) true fuel 24 [v]=some y→Rows.uptoBulk y.1≤1048576→∃(s:Sln) (F:Ss),v=s.v∧cE W W.heap.size s.A s.N F∧s.N≤s.C∧F.size+1≤Rows.uptoBulk y.1:=by
 induction fuel using Nat.strongRecOn with
 | ind fuel ih=>
  intro v y h hb;rcases DataW.trod_slice Tryz.underlying24 h with ⟨hcs,hx⟩ | ⟨a,len,cap,elems,rest,n,hfu,hcs,hx,_,hlc,hcm,hel,hi,_,_⟩
  ·simp at hcs;subst hcs;exact ⟨⟨none,0,0⟩,.nil,rfl,cE.nil _ _,Nat.le_refl _,j5 _⟩
  ·simp at hcs;subst hcs;have hy:y.1=.slice (elems.map (·.1)) (rest.map (·.1)):=by rw [hx]
   have hall:=jB (elems.map (·.1)) (rest.map (·.1));rw [←hy] at hall;have c7:Tryz.prog.cellsOf 133=7:=by kernel_rfl
   rw [c7] at hi;obtain ⟨F,h1,h2,h3,h4,h5⟩:=zd (W:=W) (a:=a) (elems.map (·.1)) 0 (fun i d hd=>by
    obtain ⟨x,hxe,rfl⟩:∃x,elems[i]?=some x∧x.1=d:=by simpa using hd
    have hil:i < len:=by have:=(List.getElem?_eq_some_iff.1 hxe).1;omega
    have h1:=hi i hil;rw [hxe] at h1;obtain ⟨cs,h2,h3⟩:=Option.bind_eq_some_iff.1 h1;obtain ⟨_,hl7,hcell⟩:=World.cells?_some h2;obtain ⟨xs,m,hm,hdx,hlen,hxl,hg⟩:=DataW.trod_struct Tryz.underlying133 h3;match xs,hxl with
    | [y0,y1,y2,y3,y4,y5,y6],_=>
     have g0:DataW.trod enc Tryz.prog W 0 (fun _=>true) true m 3 (List.take (Tryz.prog.cellsOf 3) (List.drop 0 cs))=some y0:=hg 0 _ rfl;have g1:DataW.trod enc Tryz.prog W 0 (fun _=>true) true m 9 (List.take (Tryz.prog.cellsOf 9) (List.drop 1 cs))=some y1:=hg 1 _ rfl;have g2:DataW.trod enc Tryz.prog W 0 (fun _=>true) true m 131 (List.take (Tryz.prog.cellsOf 131) (List.drop 2 cs))=some y2:=hg 2 _ rfl;have g3:DataW.trod enc Tryz.prog W 0 (fun _=>true) true m 3 (List.take (Tryz.prog.cellsOf 3) (List.drop 3 cs))=some y3:=hg 3 _ rfl;have g4:DataW.trod enc Tryz.prog W 0 (fun _=>true) true m 3 (List.take (Tryz.prog.cellsOf 3) (List.drop 4 cs))=some y4:=hg 4 _ rfl;have g5:DataW.trod enc Tryz.prog W 0 (fun _=>true) true m 24 (List.take (Tryz.prog.cellsOf 24) (List.drop 5 cs))=some y5:=hg 5 _ rfl;have g6:DataW.trod enc Tryz.prog W 0 (fun _=>true) true m 24 (List.take (Tryz.prog.cellsOf 24) (List.drop 6 cs))=some y6:=hg 6 _ rfl;have ci:Tryz.prog.cellsOf 3=1:=by kernel_rfl
     have cs1:Tryz.prog.cellsOf 9=1:=by kernel_rfl
     have ce:Tryz.prog.cellsOf 131=1:=by kernel_rfl
     have cst:Tryz.prog.cellsOf 24=1:=by kernel_rfl
     rw [ci] at g0 g3 g4;rw [cs1] at g1;rw [ce] at g2;rw [cst] at g5 g6;obtain ⟨kd,e0,hd0,ho⟩:=DataW.trod_int Tryz.underlying3 g0;obtain ⟨s,e1,hd1,_⟩:=DataW.trod_string Tryz.underlying9 g1;obtain ⟨lo,e3,hd3,hlo⟩:=DataW.trod_int Tryz.underlying3 g3;obtain ⟨hi',e4,hd4,hhi⟩:=DataW.trod_int Tryz.underlying3 g4;have hd:x.1=.agg [y0.1,y1.1,y2.1,y3.1,y4.1,y5.1,y6.1]:=by have:=congrArg Prod.fst hdx;simpa using this
     have hxb:Rows.uptoBulk x.1≤1048576:=by have:=kJ (d:=x.1) (l:=elems.map (·.1)) (List.mem_map.2 ⟨x,List.mem_of_getElem? hxe,rfl⟩);omega
     have hs:s.size+Rows.uptoBulk y2.1+Rows.uptoBulk y5.1+Rows.uptoBulk y6.1+1≤Rows.uptoBulk x.1:=by rw [hd,hd1];have:=iz (H:=H) s;simp only [Rows.uptoBulk,Rows.uptoBulkAll] at this ⊢;omega
     obtain ⟨v2,e2⟩:=dd (l:=cs) (k:=2) (by rw [List.length_drop];omega);obtain ⟨v5,e5⟩:=dd (l:=cs) (k:=5) (by rw [List.length_drop];omega);obtain ⟨v6,e6⟩:=dd (l:=cs) (k:=6) (by rw [List.length_drop];omega);rw [e2] at g2;rw [e5] at g5;rw [e6] at g6;obtain ⟨S2,K2,rfl,hK2,hC2,hz2⟩:=ye m v2 y2 g2 (by omega);obtain ⟨S5,K5,rfl,hK5,hC5,hz5⟩:=ih m (by omega) v5 y5 g5 (by omega);obtain ⟨S6,K6,rfl,hK6,hC6,hz6⟩:=ih m (by omega) v6 y6 g6 (by omega);refine ⟨kd,s,S2.A,S2.N,S2.C,K2,lo,hi',S5.A,S5.N,S5.C,K5,S6.A,S6.N,S6.C,K6,fun j u hu=>?_,⟨ff ho,ff hlo,ff hhi,by omega,hK2,hK5,hK6,hC2,hC5,hC6⟩,by omega⟩;have hce:cs=aR kd s S2.A S2.N S2.C lo hi' S5.A S5.N S5.C S6.A S6.N S6.C:=by rw [show cs=cs.drop 0 from rfl,bz cs 0 1,e0,bz cs (0+1) 1,e1,bz cs (0+1+1) 1,e2,bz cs (0+1+1+1) 1,e3,bz cs (0+1+1+1+1) 1,e4,bz cs (0+1+1+1+1+1) 1,e5,bz cs (0+1+1+1+1+1+1) 1,e6,List.drop_of_length_le (by omega)];rfl
     have hj:j < 7:=by have:=(List.getElem?_eq_some_iff.1 hu).1;simpa [aR] using this
     rw [←hce] at hu;rw [Nat.zero_add,←jM,hcell j hj,hu])
   rw [List.length_map,hel] at h1;refine ⟨⟨some a,len,cap⟩,F,rfl,⟨⟨by rw [Ss.cells_len,h1],by show len≤_;unfold maxLen at hcm;omega,fun hn=>⟨a,rfl,?_,fun j u hu=>?_⟩⟩,h3,h2⟩,hlc,by omega⟩
   ·have hn' : 0 < len:=hn;obtain ⟨u,hu⟩:∃u,F.cells[0]?=some u:=⟨_,List.getElem?_eq_getElem (by rw [Ss.cells_len];omega)⟩;have:=lb (h4 0 u hu);rwa [du] at this
   ·have:=h4 j u hu;rwa [Nat.zero_mul,Nat.zero_add] at this
set_option maxRecDepth 100000 in
set_option maxHeartbeats 1000000 in
theorem yf {H:Type} {enc:TypeId × Value→H} {W:World} {v:Value} {d:DataW H} {p:List MemPlace} {r:Reach} {b0:Nat} (hv:Value.okWide Tryz.prog W r b0 26 v) (h:DataW.Trod enc Tryz.prog W 0 (fun _=>true) true 26 v d p) (hb:Rows.uptoBulk d≤1048576):∃q:PgT,v=.agg (pgC q).toArray∧cI W W.heap.size q:=by
 obtain ⟨cs,rfl,_⟩:=okWide_struct Tryz.underlying26 hv;obtain ⟨fuel,hf⟩:=h;simp only [Value.cells] at hf;obtain ⟨xs,m,hm,hdx,hlen,hxl,hg⟩:=DataW.trod_struct Tryz.underlying26 hf;have hl:cs.toList.length=11:=by rw [hlen];kernel_rfl
 match xs,hxl with
 | [y0,y1,y2,y3,y4,y5,y6,y7,y8,y9,y10],_=>
  obtain ⟨u2,e2⟩:=dd (l:=cs.toList) (k:=2) (by rw [List.length_drop];omega);obtain ⟨u3,e3⟩:=dd (l:=cs.toList) (k:=3) (by rw [List.length_drop];omega);obtain ⟨u4,e4⟩:=dd (l:=cs.toList) (k:=4) (by rw [List.length_drop];omega);obtain ⟨u5,e5⟩:=dd (l:=cs.toList) (k:=5) (by rw [List.length_drop];omega);obtain ⟨u6,e6⟩:=dd (l:=cs.toList) (k:=6) (by rw [List.length_drop];omega);obtain ⟨u7,e7⟩:=dd (l:=cs.toList) (k:=7) (by rw [List.length_drop];omega);obtain ⟨u9,e9⟩:=dd (l:=cs.toList) (k:=9) (by rw [List.length_drop];omega);obtain ⟨u10,e10⟩:=dd (l:=cs.toList) (k:=10) (by rw [List.length_drop];omega);have ci:Tryz.prog.cellsOf 3=1:=by kernel_rfl
  have cs1:Tryz.prog.cellsOf 9=1:=by kernel_rfl
  have cis:Tryz.prog.cellsOf 22=1:=by kernel_rfl
  have cv:Tryz.prog.cellsOf 23=1:=by kernel_rfl
  have cst:Tryz.prog.cellsOf 24=1:=by kernel_rfl
  have g0:DataW.trod enc Tryz.prog W 0 (fun _=>true) true m 9 (List.take (Tryz.prog.cellsOf 9) (List.drop 0 cs.toList))=some y0:=hg 0 _ rfl;have g1:DataW.trod enc Tryz.prog W 0 (fun _=>true) true m 3 (List.take (Tryz.prog.cellsOf 3) (List.drop 1 cs.toList))=some y1:=hg 1 _ rfl;have g2:DataW.trod enc Tryz.prog W 0 (fun _=>true) true m 22 (List.take (Tryz.prog.cellsOf 22) (List.drop 2 cs.toList))=some y2:=hg 2 _ rfl;have g3:DataW.trod enc Tryz.prog W 0 (fun _=>true) true m 23 (List.take (Tryz.prog.cellsOf 23) (List.drop 3 cs.toList))=some y3:=hg 3 _ rfl;have g4:DataW.trod enc Tryz.prog W 0 (fun _=>true) true m 24 (List.take (Tryz.prog.cellsOf 24) (List.drop 4 cs.toList))=some y4:=hg 4 _ rfl;have g5:DataW.trod enc Tryz.prog W 0 (fun _=>true) true m 24 (List.take (Tryz.prog.cellsOf 24) (List.drop 5 cs.toList))=some y5:=hg 5 _ rfl;have g6:DataW.trod enc Tryz.prog W 0 (fun _=>true) true m 23 (List.take (Tryz.prog.cellsOf 23) (List.drop 6 cs.toList))=some y6:=hg 6 _ rfl;have g7:DataW.trod enc Tryz.prog W 0 (fun _=>true) true m 24 (List.take (Tryz.prog.cellsOf 24) (List.drop 7 cs.toList))=some y7:=hg 7 _ rfl;have g8:DataW.trod enc Tryz.prog W 0 (fun _=>true) true m 9 (List.take (Tryz.prog.cellsOf 9) (List.drop 8 cs.toList))=some y8:=hg 8 _ rfl;have g9:DataW.trod enc Tryz.prog W 0 (fun _=>true) true m 24 (List.take (Tryz.prog.cellsOf 24) (List.drop 9 cs.toList))=some y9:=hg 9 _ rfl;have g10:DataW.trod enc Tryz.prog W 0 (fun _=>true) true m 24 (List.take (Tryz.prog.cellsOf 24) (List.drop 10 cs.toList))=some y10:=hg 10 _ rfl;rw [cs1] at g0 g8;rw [ci] at g1;rw [cis,e2] at g2;rw [cv,e3] at g3;rw [cv,e6] at g6;rw [cst,e4] at g4;rw [cst,e5] at g5;rw [cst,e7] at g7;rw [cst,e9] at g9;rw [cst,e10] at g10;obtain ⟨nm,e0,hd0,_⟩:=DataW.trod_string Tryz.underlying9 g0;obtain ⟨se,e1,hd1,hse⟩:=DataW.trod_int Tryz.underlying3 g1;obtain ⟨si,e8,hd8,_⟩:=DataW.trod_string Tryz.underlying9 g8;have hd:d=.agg [y0.1,y1.1,y2.1,y3.1,y4.1,y5.1,y6.1,y7.1,y8.1,y9.1,y10.1]:=by have:=congrArg Prod.fst hdx;simpa using this
  have hs:nm.size+si.size+Rows.uptoBulk y2.1+Rows.uptoBulk y3.1+Rows.uptoBulk y4.1+Rows.uptoBulk y5.1+Rows.uptoBulk y6.1+Rows.uptoBulk y7.1+Rows.uptoBulk y9.1+Rows.uptoBulk y10.1≤Rows.uptoBulk d:=by rw [hd,hd0,hd8];have h1:=iz (H:=H) nm;have h2:=iz (H:=H) si;simp only [Rows.uptoBulk,Rows.uptoBulkAll] at h1 h2 ⊢;omega
  obtain ⟨S2,l2,rfl,k2,c2,z2,r2⟩:=yd g2 (by omega);obtain ⟨S3,l3,rfl,k3,c3,z3⟩:=sG g3 (by omega);obtain ⟨S4,l4,rfl,k4,c4,z4⟩:=j6 m _ _ g4 (by omega);obtain ⟨S5,l5,rfl,k5,c5,z5⟩:=j6 m _ _ g5 (by omega);obtain ⟨S6,l6,rfl,k6,c6,z6⟩:=sG g6 (by omega);obtain ⟨S7,l7,rfl,k7,c7,z7⟩:=j6 m _ _ g7 (by omega);obtain ⟨S9,l9,rfl,k9,c9,z9⟩:=j6 m _ _ g9 (by omega);obtain ⟨S10,l10,rfl,k10,c10,z10⟩:=j6 m _ _ g10 (by omega);refine ⟨⟨nm,se,S2,l2,S3,l3,S4,l4,S5,l5,S6,l6,S7,l7,si,S9,l9,S10,l10⟩,?_,⟨k2,k3,k4,k5,k6,k7,k9,k10,⟨c2,c3,c4,c5,c6,c7,c9,c10⟩,by unfold PgT.size;show _+_+_≤_;simp only;omega,by show nm.size≤_;omega,by show si.size≤_;omega,ff hse,by show S2.N≤_;omega,r2⟩⟩;have hce:cs.toList=pgC ⟨nm,se,S2,l2,S3,l3,S4,l4,S5,l5,S6,l6,S7,l7,si,S9,l9,S10,l10⟩:=by rw [show cs.toList=cs.toList.drop 0 from rfl,bz cs.toList 0 1,e0,bz cs.toList (0+1) 1,e1,bz cs.toList (0+1+1) 1,e2,bz cs.toList (0+1+1+1) 1,e3,bz cs.toList (0+1+1+1+1) 1,e4,bz cs.toList (0+1+1+1+1+1) 1,e5,bz cs.toList (0+1+1+1+1+1+1) 1,e6,bz cs.toList (0+1+1+1+1+1+1+1) 1,e7,bz cs.toList (0+1+1+1+1+1+1+1+1) 1,e8,bz cs.toList (0+1+1+1+1+1+1+1+1+1) 1,e9,bz cs.toList (0+1+1+1+1+1+1+1+1+1+1) 1,e10,List.drop_of_length_le (by omega)];rfl
  rw [←hce]
def sH:List (String × DataW Unit):=Rows.wholeStepUptoRow.laid
theorem vI (os:Os) (args:Array Value):laidMetH Tryz.prog sH ((World.doorLaid Tryz.prog 400 os).forCall (fun _ _=>0) ⟨#[],args,[]⟩).memory:=
 laidMetH_of_parts3 (fuel:=8) (laidMet_of_run' 8 (by kernel_rfl) (by kernel_rfl)) (by kernel_rfl) (by kernel_rfl)
theorem j7 {P:Program} {w:World} {n:String} {d:DataW Unit} {g:Nat} {t:TypeId} (hg:P.globalNamed n=some g) (ht:(P.globals[g]?).map (·.type)=some t):∀{l:List (String × DataW Unit)} {ps:List MemPlace},DataW.LaidVars P w l ps→∀(i:Nat),l[i]?=some (n,d)→∃(cs:Array Value) (fuel:Nat) (p:List MemPlace),(∀i,w.cell? ⟨g,i,none⟩=cs.toList[i]?)∧DataW.trod (fun _=>()) P w 0 (fun _=>true) false fuel t cs.toList=some (d,p)
 | [],_,_,i,hi=>by simp at hi
 | (n',d') :: r,ps,h,i,hi=>by
  obtain ⟨g',t',cs,fuel,p,q,h1,h2,h3,h4,h5,_⟩:=h;cases i with
  | zero=>
   have e:(n',d')=(n,d):=by simpa using hi
   obtain ⟨e1,e2⟩:=Prod.mk.inj e;subst e1;subst e2;have e3:g'=g:=Option.some.inj (h1.symm.trans hg);subst e3;have e4:t'=t:=Option.some.inj (h2.symm.trans ht);subst e4;exact ⟨cs,fuel,p,fun i=>by rw [World.var?_cell hg h3];simp,h4⟩
  | succ i=>exact j7 hg ht h5 i (by simpa using hi)
theorem tH {w:World} {fuel:Nat} {cs:List Value} {p:List MemPlace} (h:DataW.trod (fun _=>()) Tryz.prog w 0 (fun _=>true) false fuel 238 cs=some (Rows.laid_baize_code_operations,p)):∀(k:Nat) (x:List UInt8),lP[k]?=some x→cs[k*2+1]?=some (.string ⟨x.toArray⟩):=by
 intro k x hx;obtain ⟨xs,m,_,hd,hlen,hxl,hf⟩:=DataW.trod_array Tryz.underlying238 h;have hk:k < 22:=(List.getElem?_eq_some_iff.1 hx).1;have c2:Tryz.prog.cellsOf 237=2:=by kernel_rfl
 have cst:Tryz.prog.cellsOf 9=1:=by kernel_rfl
 rw [c2] at hf;have h1:=hf k hk;obtain ⟨y,hy⟩:∃y,xs[k]?=some y:=⟨xs[k],List.getElem?_eq_getElem (by omega)⟩;rw [hy] at h1;have hm:(xs.map (·.1))[k]?=some y.1:=by rw [List.getElem?_map,hy];rfl
 have hl:xs.map (·.1)=[[104,97,108,116],[115,101,116],[109,111,118,101],[97,100,100],[115,117,98],[109,117,108],[100,105,118],[114,101,109],[101,113],[110,101],[108,116],[108,101],[97,110,100],[111,114],[110,111,116],[108,111,97,100],[115,116,111,114,101],[99,117,116],[119,105,116,104,105,110],[106,117,109,112],[106,122],[106,110,122]].zipWith (fun (a b:List UInt8)=>DataW.agg [.lit (.string a),.lit (.string b)]) lP:=by have h2:=congrArg Prod.fst hd;have h3:=DataW.agg.inj h2;exact h3.symm
 rw [hl,List.getElem?_zipWith,hx] at hm;obtain ⟨zs,n,_,hd2,hlen2,hxl2,hf2⟩:=DataW.trod_struct Tryz.underlying237 h1;have h4:DataW.trod (fun _=>()) Tryz.prog w 0 (fun _=>true) false n 9 (List.take (Tryz.prog.cellsOf 9) (List.drop 1 (List.take 2 (List.drop (k*2) cs))))=zs[1]?:=hf2 1 _ rfl;have hz2:zs.length=2:=hxl2;obtain ⟨z,hz⟩:∃z,zs[1]?=some z:=⟨zs[1],List.getElem?_eq_getElem (by omega)⟩;rw [hz,cst] at h4;obtain ⟨s,e,hs,_⟩:=DataW.trod_string Tryz.underlying9 h4;have hy1:y.1=.agg (zs.map (·.1)):=congrArg Prod.fst hd2;have hzm:(zs.map (·.1))[1]?=some z.1:=by rw [List.getElem?_map,hz];rfl
 have hsx:s.data.toList=x:=by
  split at hm
  ·rename_i a b ha hb;cases hb;have h5:=(Option.some.inj hm).trans hy1;have h6:=DataW.agg.inj h5;rw [←h6] at hzm;have h7:DataW.lit (.string x)=z.1:=by simpa using hzm
   rw [hs] at h7;simpa using h7.symm
  ·cases hm
 have hc:=congrArg (·[0]?) e;simp only [List.getElem?_take,List.getElem?_drop] at hc;have he:s=⟨x.toArray⟩:=by rw [←hsx]
 rw [←he];simpa [Nat.add_comm] using hc
def spT:List Int:=(List.range 256).map fun c=>if Lib.isSp (UInt8.ofNat c) then 1 else 0
set_option maxRecDepth 100000 in
theorem sI {w:World} (h:laidMetH Tryz.prog sH w):cX w:=by
 obtain ⟨ps,hv,_⟩:laidMet Tryz.prog sH w:=h;obtain ⟨c0,f0,p0,h0,t0⟩:=j7 (n:= "baize/code.operations") (d:=Rows.laid_baize_code_operations) (g:=0) (t:=238) (by kernel_rfl) (by kernel_rfl) hv 5 rfl;obtain ⟨c1,f1,p1,h1,t1⟩:=j7 (n:= "strings.asciiSpace") (d:=Rows.laid_strings_asciiSpace) (g:=1) (t:=307) (by kernel_rfl) (by kernel_rfl) hv 4 rfl;obtain ⟨c2,f2,p2,h2,t2⟩:=j7 (n:= "baize/sorts.stmtParts") (d:=Rows.laid_baize_sorts_stmtParts) (g:=2) (t:=310) (by kernel_rfl) (by kernel_rfl) hv 6 rfl;obtain ⟨c5,f5,p5,h5,t5⟩:=j7 (n:= "baize/sorts.exprParts") (d:=Rows.laid_baize_sorts_exprParts) (g:=5) (t:=321) (by kernel_rfl) (by kernel_rfl) hv 7 rfl;have e1:=Lib.cells_of_tab (zs:=spT) Tryz.underlying307 Tryz.underlying5 (by kernel_rfl) (by kernel_rfl) (by rw [show Lib.tabData .u8 spT=Rows.laid_strings_asciiSpace by kernel_rfl];exact t1);have e2:=Lib.cells_of_tab (zs:=fp) Tryz.underlying310 Tryz.underlying3 (by kernel_rfl) (by kernel_rfl) t2;have e5:=Lib.cells_of_tab (zs:=dG) Tryz.underlying321 Tryz.underlying3 (by kernel_rfl) (by kernel_rfl) t5;refine ⟨fun c hc=>?_,fun k x hk=>?_,fun k x hk=>?_,fun k x hk=>?_⟩
 ·rw [h1,e1,List.getElem?_map,spT,List.getElem?_map,List.getElem?_range hc];rfl
 ·rw [h2,e2,List.getElem?_map,hk];rfl
 ·rw [h5,e5,List.getElem?_map,hk];rfl
 ·rw [h0];exact tH t0 k x hk
theorem sJ {H:Type} {enc:TypeId × Value→H} {W:World} {n:Nat} {cs:List Value} {y:DataW H × List MemPlace} (h:DataW.trod enc Tryz.prog W 0 (fun _=>true) true n 27 cs=some y):∃(A:Option Addr) (N C:Nat) (ys:List Int),cs=[.slice A N C]∧Sl W W.heap.size 1 A N (ys.map (.int .i32))∧∀y∈ys,-2147483648≤y∧y≤2147483647:=by
 rcases open_ints Tryz.underlying27 Tryz.underlying21 (by kernel_rfl) h with ⟨hcs,_⟩ | ⟨x,l,c,zs,hcs,_,hl,hm,hz,_,hcell,hwz⟩
 ·exact ⟨none,0,0,[],hcs,Sl.nil,by simp⟩
 ·have hzl:zs.length=c:=by simpa using hz
  refine ⟨_,l,c,zs.take l,hcs,⟨by simp;omega,by unfold maxLen at hm;omega,fun hn=>⟨x,rfl,?_,fun j u hu=>?_⟩⟩,fun z hz=>yc (hwz z (List.mem_of_mem_take hz))⟩
  ·have:=lb (hcell 0 (by omega));rwa [du] at this
  ·rw [List.getElem?_map] at hu;obtain ⟨z,hz,rfl⟩:=Option.map_eq_some_iff.1 hu;rw [List.getElem?_take] at hz;split at hz
   ·rw [hcell j (by omega),List.getD_eq_getElem?_getD,hz];rfl
   ·cases hz
set_option maxRecDepth 100000 in
theorem yg {H:Type} {enc:TypeId × Value→H} {W:World} {v:Value} {d:DataW H} {p:List MemPlace} {r:Reach} {b0:Nat} (hv:Value.okWide Tryz.prog W r b0 28 v) (h:DataW.Trod enc Tryz.prog W 0 (fun _=>true) true 28 v d p):∃(A:Option Addr) (N C:Nat) (vs:List Int) (B:Option Addr) (M D:Nat) (ys:List Int),v=.agg #[.slice A N C,.slice B M D]∧(Sl W W.heap.size 1 A N (vs.map (.int .i32))∧∀y∈vs,-2147483648≤y∧y≤2147483647)∧Sl W W.heap.size 1 B M (ys.map (.int .i32))∧∀y∈ys,-2147483648≤y∧y≤2147483647:=by
 obtain ⟨cs,rfl⟩:∃cs,v=.agg cs:=by unfold Value.okWide at hv;rw [Tryz.underlying28] at hv;obtain ⟨cs,hv,_⟩:=hv;exact ⟨cs,hv⟩
 obtain ⟨fuel,hf⟩:=h;simp only [Value.cells] at hf;obtain ⟨xs,m,_,_,hlen,hxl,hg⟩:=DataW.trod_array Tryz.underlying28 hf;have c1:Tryz.prog.cellsOf 27=1:=by kernel_rfl
 have hl2:cs.toList.length=2:=by rw [hlen];kernel_rfl
 rw [c1] at hg;have g0:=hg 0 (by decide);have g1:=hg 1 (by decide);rw [List.getElem?_eq_getElem (by omega)] at g0 g1;obtain ⟨A,N,C,vs,e0,h0,w0⟩:=sJ g0;obtain ⟨B,M,D,ys,e1,h1,w1⟩:=sJ g1;refine ⟨A,N,C,vs,B,M,D,ys,?_,⟨h0,w0⟩,h1,w1⟩;congr 1;apply Array.ext';match hq:cs.toList,hl2 with
 | [a,b],_=>
  rw [hq] at e0 e1;have e0' : a=.slice A N C:=by simpa using e0
  have e1' : b=.slice B M D:=by simpa using e1
  rw [e0',e1']
end Go.Proofs.YtllbdpdnpaocnaaGreatDoor
