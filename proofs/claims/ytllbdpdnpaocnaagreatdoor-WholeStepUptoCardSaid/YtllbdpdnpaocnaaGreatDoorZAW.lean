/- Part of the proof of WholeStep. -/
import Derived.Deep.RegionHeld3
import Derived.Test.YtllbdpdnpaocnaaGreatDoorZAA
namespace Go.Proofs.YtllbdpdnpaocnaaGreatDoor
set_option linter.unusedSimpArgs false
set_option linter.unusedVariables false
set_option linter.constructorNameAsVariable false
open Go
section
variable {P:Program} {ops:Array Oper} {Q:Exit→Act→World→Prop} {md:Region.Mode}
def co:List (Nat × (World→Prop))→Array Bool→World→Prop
 | [],_,_=>True
 | (k,F) :: T,l,w=>(l.getD k true=false→F w)∧co T l w
theorem mT:∀{T:List (Nat × (World→Prop))} {l:Array Bool} {w:World} {k:Nat} {F:World→Prop},co T l w→(k,F)∈T→l.getD k true=false→F w
 | (k',F') :: T,l,w,k,F,h,hm,hl=>by
  rcases List.mem_cons.1 hm with e | hm
  ·injection e with e1 e2;subst e1;subst e2;exact h.1 hl
  ·exact mT h.2 hm hl
theorem ir:∀{T:List (Nat × (World→Prop))} {l l' : Array Bool} {w:World},co T l w→(∀p∈T,l'.getD p.1 true=false→l.getD p.1 true=false)→co T l' w
 | [],_,_,_,_,_=>trivial
 | (k,F) :: _,_,_,_,h,hk=>⟨fun hl=>h.1 (hk (k,F) (by simp) hl),ir h.2 fun p hp=>hk p (by simp [hp])⟩
def cC (P:Program) (md:Region.Mode) (ops:Array Oper) (Q:Exit→Act→World→Prop) (T:List (Nat × (World→Prop))):Nat→Array Bool→Act→World→Prop
 | 0,listed,a,w=>Region.ready md ops listed=[]∧Q .normal a w
 | fuel+1,listed,a,w=>
  (Region.ready md ops listed=[]→Q .normal a w)∧
  ∀i∈Region.ready md ops listed,wpOp P ops Q i (fun a' w'=>co T (listed.setIfInBounds i true) w'∧cC P md ops Q T fuel (listed.setIfInBounds i true) a' w') a w
variable {T:List (Nat × (World→Prop))}
theorem lz:∀(fuel:Nat) (listed:Array Bool) (a:Act) (w:World),cC P md ops Q T fuel listed a w→wpAny P md ops Q fuel listed a w
 | 0,_,_,_,h=>h
 | fuel+1,_,_,_,h=>⟨h.1,fun i hi=>wpOp_mono (fun a' w' h'=>lz fuel _ a' w' h'.2) (h.2 i hi)⟩
theorem jR {i:Nat} {oi:Oper} {v:Value} {F:World→Prop} {I:Array Bool→Prop} (hi:ops[i]?=some oi) (hsel:∀(j:Nat) (o:Oper) cs b,ops[j]?=some o→o.op≠.select cs b) (hQ:∀c a w,Q (.panic c) (a.put oi.dst v) w→Q (.panic c) a w) (hT:∀p∈T,p.1≠i) (hIs:∀l j,I l→j∈Region.ready md ops l→i∈Region.ready md ops l→j≠i→I (l.setIfInBounds j true)) (hIg:∀l w,I l→co T l w→F w):∀(fuel:Nat) (listed:Array Bool) (a:Act) (w:World),(∀j oj,ops[j]?=some oj→j≠i→listed.getD j true=false→(∀e∈oj.after,Region.binds md e=true→e.on≠i)→oi.apart ops oj=true)→i∈Region.ready md ops listed→I listed→YieldsIf P ops F oi v a→co T listed w→cC P md ops Q T fuel (listed.setIfInBounds i true) (a.put oi.dst v) w→cC P md ops Q T (fuel+1) listed a w:=by
 intro fuel;have hset:∀(l:Array Bool) (w:World),co T l w→co T (l.setIfInBounds i true) w:=fun l w h=>ir h fun p hp hl=>by rwa [getD_set_ne true (Ne.symm (hT p hp))] at hl
 have hun:∀(l:Array Bool) (w:World),co T (l.setIfInBounds i true) w→co T l w:=fun l w h=>ir h fun p hp hl=>by rwa [getD_set_ne true (Ne.symm (hT p hp))]
 induction fuel with
 | zero=>
  intro listed a w _ hr hI hy hS H;refine ⟨fun h=>(by rw [h] at hr;cases hr),fun j hj=>?_⟩;by_cases hji:j=i
  ·subst hji;exact hy.wpOp hi (hIg _ _ hI hS) ⟨hset _ _ hS,H⟩
  ·have:=ready_mono hj hji;rw [H.1] at this;cases this
 | succ fuel ih=>
  intro listed a w hfree hr hI hy hS H;refine ⟨fun h=>(by rw [h] at hr;cases hr),fun j hj=>?_⟩;by_cases hji:j=i
  ·subst hji;exact hy.wpOp hi (hIg _ _ hI hS) ⟨hset _ _ hS,H⟩
  ·have h1:=H.2 j (ready_mono hj hji);obtain ⟨hjun,oj,hoj,hall⟩:=mem_ready.1 hj;have hnot:∀e∈oj.after,Region.binds md e=true→e.on≠i:=fun e he hb heq=>by
    have h1:=hall e he hb;have h0:=(mem_ready.1 hr).1;rw [heq] at h1;rcases Nat.lt_or_ge i listed.size with h' | h'
    ·simp [h'] at h0 h1;rw [h0] at h1;cases h1
    ·simp [Array.getElem?_eq_none h'] at h1
   have h2:=wpOp_putIf hoj (hfree j oj hoj hji hjun hnot) (fun cs b=>hsel i oi cs b hi) (fun cs b=>hsel j oj cs b hoj) hQ hy h1;have hfree' : ∀k ok,ops[k]?=some ok→k≠i→(listed.setIfInBounds j true).getD k true=false→(∀e∈ok.after,Region.binds md e=true→e.on≠i)→oi.apart ops ok=true:=fun k ok hk hki hun hno=>by
    refine hfree k ok hk hki ?_ hno;by_cases hjk:j=k
    ·subst hjk;exact hjun
    ·rw [getD_set_ne true hjk] at hun;exact hun
   refine wpOp_mono (fun a' w' h3=>?_) h2;obtain ⟨hy',hS',h4⟩:=h3;rw [Array.setIfInBounds_comm _ _ (Ne.symm hji)] at hS' h4;have hS'':=hun _ _ hS';exact ⟨hS'',ih (listed.setIfInBounds j true) a' w' hfree' (ready_mono hr (Ne.symm hji)) (hIs _ _ hI hj hr hji) hy' hS'' h4⟩
def uZ (md:Region.Mode) (ops:Array Oper) (k i:Nat):Bool:=match ops[k]? with | some o=>o.after.any (fun e=>Region.binds md e && e.on == i) | none=>false
theorem ph {i k:Nat} (n:Nat) {oi:Oper} {v:Value} {F:World→Prop} {fuel:Nat} {listed:Array Bool} {a:Act} {w:World} (hi:ops[i]?=some oi) (hTn:T[n]?=some (k,F)) (hs:Region.noSelect ops=true) (hf:Region.free md ops listed i=true) (hr:(Region.ready md ops listed).contains i=true) (hk:uZ md ops k i=true) (hkl:listed.getD k true=false) (hTi:(T.map (·.1)).all (· != i)=true) (hQ:∀c a w,Q (.panic c) (a.put oi.dst v) w→Q (.panic c) a w) (hy:YieldsIf P ops F oi v a) (hS:co T listed w) (h:co T (listed.setIfInBounds i true) w→cC P md ops Q T fuel (listed.setIfInBounds i true) (a.put oi.dst v) w):cC P md ops Q T (fuel+1) listed a w:=by
 have hTi' : ∀p∈T,p.1≠i:=fun p hp=>by have:=List.all_eq_true.1 hTi p.1 (List.mem_map_of_mem hp);simpa using this
 have hT:(k,F)∈T:=List.mem_of_getElem? hTn;have hS2:co T (listed.setIfInBounds i true) w:=ir hS fun p hp hl=>by rwa [getD_set_ne true (Ne.symm (hTi' p hp))] at hl
 refine jR (I:=fun l=>l.getD k true=false) hi (Region.noSelect_spec hs) hQ hTi' (fun l j hl hj hi' hji=>?_) (fun l w hl hh=>mT hh hT hl) fuel listed a w (Region.free_spec hi hf) (by simpa using hr) hkl hy hS (h hS2);have hjk:j≠k:=by
  rintro rfl;obtain ⟨_,oj,hoj,hall⟩:=mem_ready.1 hj;unfold uZ at hk;rw [hoj] at hk;obtain ⟨e,he,hb⟩:=Array.any_eq_true'.1 hk;simp only [Bool.and_eq_true,beq_iff_eq] at hb;have h1:=hall e he hb.1;rw [hb.2] at h1;have h0:=(mem_ready.1 hi').1;rcases Nat.lt_or_ge i l.size with h' | h'
  ·simp [h'] at h0 h1;rw [h0] at h1;cases h1
  ·simp [Array.getElem?_eq_none h'] at h1
 rw [getD_set_ne true hjk];exact hl
theorem jS {i:Nat} {oi:Oper} {v:Value} {fuel:Nat} {listed:Array Bool} {a:Act} {w:World} (hi:ops[i]?=some oi) (hs:Region.noSelect ops=true) (hf:Region.free md ops listed i=true) (hr:(Region.ready md ops listed).contains i=true) (hTi:(T.map (·.1)).all (· != i)=true) (hQ:∀c a w,Q (.panic c) (a.put oi.dst v) w→Q (.panic c) a w) (hy:YieldsIf P ops (fun _=>True) oi v a) (hS:co T listed w) (h:co T (listed.setIfInBounds i true) w→cC P md ops Q T fuel (listed.setIfInBounds i true) (a.put oi.dst v) w):cC P md ops Q T (fuel+1) listed a w:=by
 have hTi' : ∀p∈T,p.1≠i:=fun p hp=>by have:=List.all_eq_true.1 hTi p.1 (List.mem_map_of_mem hp);simpa using this
 have hS2:co T (listed.setIfInBounds i true) w:=ir hS fun p hp hl=>by rwa [getD_set_ne true (Ne.symm (hTi' p hp))] at hl
 exact jR (I:=fun _=>True) hi (Region.noSelect_spec hs) hQ hTi' (fun _ _ _ _ _ _=>trivial) (fun _ _ _ _=>trivial) fuel listed a w (Region.free_spec hi hf) (by simpa using hr) trivial hy hS (h hS2)
theorem jT {b:Bool} {p:Prop} (h:b=false) (h' : b=true):p:=by rw [h'] at h;cases h
theorem cU {listed:Array Bool} {a:Act} {w:World} (hr:Region.ready md ops listed=[]) (h:Q .normal a w):∀fuel,cC P md ops Q T fuel listed a w
 | 0=>⟨hr,h⟩
 | _+1=>⟨fun _=>h,by rw [hr];simp⟩
def aH (P:Program) (md:Region.Mode) (ops:Array Oper) (Q:Exit→Act→World→Prop) (T:List (Nat × (World→Prop))) (fuel:Nat) (listed:Array Bool) (a:Act) (w:World) (rs:List Nat):Prop:=
 ∀i∈rs,wpOp P ops Q i (fun a' w'=>co T (listed.setIfInBounds i true) w'∧cC P md ops Q T fuel (listed.setIfInBounds i true) a' w') a w
theorem aH.nil {fuel:Nat} {listed:Array Bool} {a:Act} {w:World} : aH P md ops Q T fuel listed a w []:=fun _ h=>by cases h
theorem aH.cons {fuel:Nat} {listed:Array Bool} {a:Act} {w:World} {i:Nat} {o:Oper} {rs:List Nat} (ho:ops[i]?=some o) (h:∀K' : Act→World→Prop,Shut (∀a w,co T (listed.setIfInBounds i true) w→(co T (listed.setIfInBounds i true) w→cC P md ops Q T fuel (listed.setIfInBounds i true) a w)→K' a w)→if Region.wanted o (yielded ops a.tmps)=true then Oper.wp P o a w K' Q else K' (a.put o.dst undef) w) (hs:aH P md ops Q T fuel listed a w rs):aH P md ops Q T fuel listed a w (i :: rs):=fun j hj=>by
 rcases List.mem_cons.1 hj with rfl | hj
 ·exact wpOp_step ho (fun K' hK=>h K' (fun a w hS hW=>hK a w ⟨hS,hW hS⟩))
 ·exact hs j hj
theorem bE {rs:List Nat} {fuel:Nat} {listed:Array Bool} {a:Act} {w:World} (hr:Region.ready md ops listed=rs) (hne:rs≠[]) (h:aH P md ops Q T fuel listed a w rs):cC P md ops Q T (fuel+1) listed a w:=⟨fun h0=>absurd (hr▸h0) hne,hr▸h⟩
theorem cJ {id:Nat} {a:Act} {w:World} (T:List (Nat × (World→Prop))) (hm:P.follows .mixedOrders=true) (hS:co T (Array.replicate ops.size false) w.drew) (h:co T (Array.replicate ops.size false) w.drew→cC P .any ops Q T ops.size (Array.replicate ops.size false) a w.drew):(Code.region id ops true).wp P Q a w:=
 wp_region_any hm (lz _ _ _ _ (h hS))
end
open Go.RowKit
section
variable {P:Program} {ops:Array Oper} {Q:Exit→Act→World→Prop} {md:Region.Mode} {T:List (Nat × (World→Prop))}
theorem tl (i:Nat) {oi:Oper} {v:Value} {fuel:Nat} {listed listed' : Array Bool} {a a' : Act} {w:World} (h:co T listed' w→cC P md ops Q T fuel listed' a' w) (hi:ops[i]?=some oi:=by exact rfl) (hs:Region.noSelect ops=true:=by kernel_rfl) (hf:Region.free md ops listed i=true:=by kernel_rfl) (hr:(Region.ready md ops listed).contains i=true:=by kernel_rfl) (hTi:(T.map (·.1)).all (· != i)=true:=by rfl)
  (hQ:∀c a w,Q (.panic c) (a.put oi.dst v) w→Q (.panic c) a w:=by exact fun _ _ _ h=>h) (hw:Region.wanted oi (yielded ops a.tmps)=true:=by rfl)
  (hy:∀w,(execOp a.eval oi).run P w=.ok (.value v) w:=by (intro w;go_simp;try with_reducible rfl)) (hS:co T listed w:=by assumption) (he:listed.setIfInBounds i true=listed'∧a.put oi.dst v=a':=by first | (simp only [Act.put,q1,q2,q3,q4,q5,q6];exact ⟨rfl,rfl⟩) | exact ⟨rfl,rfl⟩):cC P md ops Q T (fuel+1) listed a w:=by
 obtain ⟨rfl,rfl⟩:=he;exact jS hi hs hf hr hTi hQ (Or.inl ⟨hw,fun w _=>hy w⟩) hS h
theorem tlv (i n:Nat) {k:Nat} {oi:Oper} {v:Value} {F:World→Prop} {fuel:Nat} {listed listed' : Array Bool} {a a' : Act} {w:World} (hi:ops[i]?=some oi) (hTn:T[n]?=some (k,F)) (hy:∀w,F w→(execOp a.eval oi).run P w=.ok (.value v) w) (h:co T listed' w→cC P md ops Q T fuel listed' a' w) (hs:Region.noSelect ops=true:=by kernel_rfl) (hf:Region.free md ops listed i=true:=by kernel_rfl) (hr:(Region.ready md ops listed).contains i=true:=by kernel_rfl) (hk:uZ md ops k i=true:=by kernel_rfl) (hkl:listed.getD k true=false:=by kernel_rfl) (hTi:(T.map (·.1)).all (· != i)=true:=by rfl)
  (hQ:∀c a w,Q (.panic c) (a.put oi.dst v) w→Q (.panic c) a w:=by exact fun _ _ _ h=>h) (hw:Region.wanted oi (yielded ops a.tmps)=true:=by rfl)
  (hS:co T listed w:=by assumption) (he:listed.setIfInBounds i true=listed'∧a.put oi.dst v=a':=by first | (simp only [Act.put,q1,q2,q3,q4,q5,q6];exact ⟨rfl,rfl⟩) | exact ⟨rfl,rfl⟩):cC P md ops Q T (fuel+1) listed a w:=by
 obtain ⟨rfl,rfl⟩:=he;exact ph n hi hTn hs hf hr hk hkl hTi hQ (Or.inl ⟨hw,hy⟩) hS h
theorem tl0 (i:Nat) {oi:Oper} {fuel:Nat} {listed listed' : Array Bool} {a a' : Act} {w:World} (h:co T listed' w→cC P md ops Q T fuel listed' a' w) (hi:ops[i]?=some oi:=by exact rfl) (hs:Region.noSelect ops=true:=by kernel_rfl) (hf:Region.free md ops listed i=true:=by kernel_rfl) (hr:(Region.ready md ops listed).contains i=true:=by kernel_rfl) (hTi:(T.map (·.1)).all (· != i)=true:=by rfl)
  (hQ:∀c a w,Q (.panic c) (a.put oi.dst undef) w→Q (.panic c) a w:=by exact fun _ _ _ h=>h) (hw:Region.wanted oi (yielded ops a.tmps)=false:=by rfl)
  (hS:co T listed w:=by assumption) (he:listed.setIfInBounds i true=listed'∧a.put oi.dst undef=a':=by first | (simp only [Act.put,q1,q2,q3,q4,q5,q6];exact ⟨rfl,rfl⟩) | exact ⟨rfl,rfl⟩):cC P md ops Q T (fuel+1) listed a w:=by
 obtain ⟨rfl,rfl⟩:=he;exact jS hi hs hf hr hTi hQ (Or.inr ⟨hw,rfl⟩) hS h
theorem rl1 (i:Nat) {o:Oper} {fuel:Nat} {listed:Array Bool} {a:Act} {w:World} (h:∀K' : Act→World→Prop,Shut (∀a w,co T (listed.setIfInBounds i true) w→(co T (listed.setIfInBounds i true) w→cC P md ops Q T fuel (listed.setIfInBounds i true) a w)→K' a w)→if Region.wanted o (yielded ops a.tmps)=true then Oper.wp P o a w K' Q else K' (a.put o.dst undef) w) (ho:ops[i]?=some o:=by exact rfl) (hr:Region.ready md ops listed=[i]:=by kernel_rfl):cC P md ops Q T (fuel+1) listed a w:=
 bE hr (by simp) (aH.cons ho h aH.nil)
theorem rlw (i:Nat) {o:Oper} {fuel:Nat} {listed:Array Bool} {a:Act} {w:World} (h:∀K' : Act→World→Prop,Shut (∀a w,co T (listed.setIfInBounds i true) w→(co T (listed.setIfInBounds i true) w→cC P md ops Q T fuel (listed.setIfInBounds i true) a w)→K' a w)→Oper.wp P o a w K' Q) (ho:ops[i]?=some o:=by exact rfl) (hr:Region.ready md ops listed=[i]:=by kernel_rfl) (hw:Region.wanted o (yielded ops a.tmps)=true:=by rfl):cC P md ops Q T (fuel+1) listed a w:=
 rl1 i (fun K hK=>by rw [if_pos hw];exact h K hK) ho hr
theorem sl {fuel:Nat} {listed listed' : Array Bool} {a a' : Act} {w:World} {K:Act→World→Prop} (hK:Shut (∀a w,co T listed w→(co T listed w→cC P md ops Q T fuel listed a w)→K a w)) (hs:co T listed w) (h:co T listed' w→cC P md ops Q T fuel listed' a' w) (he:listed=listed'∧a=a':=by first | (simp only [Act.put,q1,q2,q3,q4,q5,q6];exact ⟨rfl,rfl⟩) | exact ⟨rfl,rfl⟩):K a w:=by obtain ⟨rfl,rfl⟩:=he;exact hK.out _ _ hs h
end
end Go.Proofs.YtllbdpdnpaocnaaGreatDoor
