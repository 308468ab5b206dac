/-
 A law on a region that leaves its order open: two elements of a row change places, while the load of one of the addresses' rows may come up late. Conditions: closed facts on the region's edges, by the kernel; the row's variable lies in another block than the row.
-/
import Derived.OrdersHeld
import Derived.Deep.MidRow
import Derived.Test.YtiochgoocbkckaaGreatDoorAReg3
set_option maxRecDepth 100000
set_option linter.unusedSimpArgs false
set_option linter.unusedVariables false
namespace Go.Proofs.YtiochgoocbkckaaGreatDoor
open Go Go.RowKit

section
variable {P:Program} {md:Region.Mode} {ops:Array Oper} {Q:Exit→Act→World→Prop} {S:World→Prop}
theorem wpOp_at {i:Nat} {o:Oper} {v:Value} {a:Act} {w:World} {K:Act→World→Prop} (hi:ops[i]?=some o) (hg:o.guard=none) (hv:(execOp a.eval o).run P w=.ok (.value v) w)
 (h:K (a.put o.dst v) w):wpOp P ops Q i K a w:=by
 unfold wpOp;simp only [hi];rw [if_pos (by simp [Region.wanted,hg])];left;unfold Oper.wp;rw [hv];exact h
theorem wpOp_store {i:Nat} {o:Oper} {a:Act} {w:World} {K:Act→World→Prop} (hi:ops[i]?=some o) (hg:o.guard=none) (ty:TypeId) (x y:Operand) (ho:o.op=.store ty x y)
 (b k:Nat) (cells:Array Value) (hx:a.eval x=.pointer (some ⟨b,k,none⟩)) (hy:a.eval y=.agg cells)
 (ht:w.there b k cells.size) (hs:(P.info? ty).map (·.size)=some cells.size) (h1:cells.all (·.oneCell')=true)
 (h:K (a.put o.dst undef) (w.setCells b k cells.toList)):wpOp P ops Q i K a w:=by
 unfold wpOp;simp only [hi];rw [if_pos (by simp [Region.wanted,hg])];exact .inl (wp_store_mid ty x y ho b k cells hx hy ht hs h1 h)
def takesB (md:Region.Mode) (ops:Array Oper):List Nat→Array Bool→Bool
 | [],_=>true
 | i :: r,l=>(Region.ready md ops l).contains i&&Region.free md ops l i&&takesB md ops r (l.setIfInBounds i true)
def takesP (P:Program) (ops:Array Oper) (S:World→Prop) (K:Act→Prop):List Nat→Act→Prop
 | [],a=>K a
 | i :: r,a=>∃ o v,ops[i]?=some o∧YieldsIf P ops S o v a∧takesP P ops S K r (a.put o.dst v)
def forcedB (md:Region.Mode) (ops:Array Oper):List Nat→Array Bool→Bool
 | [],l=>decide (Region.ready md ops l=[])
 | i :: r,l=>decide (Region.ready md ops l=[i])&&forcedB md ops r (l.setIfInBounds i true)
def listedB (l:Array Bool) (hd:List Nat):Array Bool:=hd.foldl (fun l i=>l.setIfInBounds i true) l
theorem held_takes (hsel:Region.noSelect ops=true) (hQ:∀ c d v a w,Q (.panic c) (Act.put a d v) w→Q (.panic c) a w) {w:World} (hS:S w) {fuel:Nat} :
 ∀ (hd:List Nat) (l:Array Bool) (a:Act),takesB md ops hd l=true→takesP P ops S (fun a'=>wpAnyH P md ops Q S fuel (listedB l hd) a' w) hd a→wpAnyH P md ops Q S (fuel+hd.length) l a w
 | [],_,_,_,h=>h
 | i :: r,l,a,hB,h=>by
  simp only [takesB,Bool.and_eq_true] at hB;obtain ⟨o,v,hi,hy,hK⟩:=h;exact wpAnyH_take hi hsel hB.1.2 hB.1.1 (fun c a w=>hQ c o.dst v a w) hy hS (held_takes hsel hQ hS r _ _ hB.2 hK)
def seqH (P:Program) (ops:Array Oper) (Q:Exit→Act→World→Prop) (S:World→Prop):List Nat→Act→World→Prop
 | [],a,w=>Q .normal a w
 | i :: r,a,w=>wpOp P ops Q i (fun a' w'=>S w'∧seqH P ops Q S r a' w') a w
theorem held_seq:∀ (tl:List Nat) (l:Array Bool) (a:Act) (w:World),forcedB md ops tl l=true→seqH P ops Q S tl a w→wpAnyH P md ops Q S tl.length l a w
 | [],_,_,_,hB,h=>⟨by simpa [forcedB] using hB,h⟩
 | i :: r,l,a,w,hB,h=>by
  simp only [forcedB,Bool.and_eq_true,decide_eq_true_eq] at hB;refine wpAnyH_all hB.1 (by simp) fun j hj => ?_
  obtain rfl:j=i:=by simpa using hj
  exact wpOp_mono (fun a' w' h'=>⟨h'.1,held_seq r _ a' w' hB.2 h'.2⟩) h
theorem yieldsIf_at {o:Oper} {v:Value} {a:Act} (hg:o.guard=none) (h:∀ w,S w→(execOp a.eval o).run P w=.ok (.value v) w):YieldsIf P ops S o v a:=.inl ⟨by simp [Region.wanted,hg],h⟩
end

def swapB (ops:Array Oper):Bool :=
 let l:=Array.replicate ops.size false
 let m:=listedB l [0,1,2,3,5,6]
 Region.noSelect ops&&takesB .any ops [0,1,2,3,5,6] l&&decide (Region.ready .any ops m=[4,7]) &&
  forcedB .any ops [7,8,9,10,11] (m.setIfInBounds 4 true)&&forcedB .any ops [4,8,9,10,11] (m.setIfInBounds 7 true)

theorem ev_load {P:Program} {a:Act} {w:World} {d:Option Tmp} {t:TypeId} {p:String} {e:Array Edge} {T:TypeId} {x:Operand} {u v:Value} (hx:a.eval x=u) (h:(Instr.loadAt T u).run P w=.ok v w):(execOp a.eval ⟨d,.load T x,t,p,e,none⟩).run P w=.ok (.value v) w:=by
 unfold execOp;simp only [hx,h,Sem.run_bind,Sem.run_pure,Result.andThen_ok]
theorem ev_index {P:Program} {a:Act} {w:World} {d:Option Tmp} {t:TypeId} {p:String} {e:Array Edge} {T:TypeId} {x y:Operand} {u v z:Value} (hx:a.eval x=u) (hy:a.eval y=v) (h:(Instr.indexAt T u v).run P w=.ok z w):(execOp a.eval ⟨d,.indexAddr T x y,t,p,e,none⟩).run P w=.ok (.value z) w:=by
 unfold execOp;simp only [hx,hy,h,Sem.run_bind,Sem.run_pure,Result.andThen_ok]

theorem wp_region_swap {P:Program} {id:Nat} {Q:Exit→Act→World→Prop} {a:Act} {w:World} {T E:TypeId} {t0 t1 t2 t3 t4 t5 t6 t7 t8 t9 t10 t11:TypeId} {p0 p1 p2 p3 p4 p5 p6 p7 p8 p9 p10 p11:String} {e0 e1 e2 e3 e4 e5 e6 e7 e8 e9 e10 e11:Array Edge} (k g n c:Nat) (va vb:Array Value) {z:TypeDesc}
 (hm:P.follows .mixedOrders=true) (hB:swapB #[⟨some 53,.load T (.tmp 5),t0,p0,e0,none⟩,⟨some 54,.load T (.tmp 5),t1,p1,e1,none⟩,⟨some 55,.load T (.tmp 5),t2,p2,e2,none⟩,⟨some 56,.indexAddr T (.tmp 55) (.const (.int .i64 1)),t3,p3,e3,none⟩,⟨some 57,.load E (.tmp 56),t4,p4,e4,none⟩,⟨some 58,.load T (.tmp 5),t5,p5,e5,none⟩,⟨some 59,.indexAddr T (.tmp 58) (.const (.int .i64 0)),t6,p6,e6,none⟩,⟨some 60,.load E (.tmp 59),t7,p7,e7,none⟩,⟨some 61,.indexAddr T (.tmp 53) (.const (.int .i64 0)),t8,p8,e8,none⟩,⟨none,.store E (.tmp 61) (.tmp 57),t9,p9,e9,none⟩,⟨some 62,.indexAddr T (.tmp 54) (.const (.int .i64 1)),t10,p10,e10,none⟩,⟨none,.store E (.tmp 62) (.tmp 60),t11,p11,e11,none⟩]=true) (hsz:62<a.tmps.size)
 (hx:a.eval (.tmp 5)=.pointer (some ⟨k,0,none⟩)) (hk:w.cell? ⟨k,0,none⟩=some (.slice (some ⟨g,0,none⟩) n c)) (hgk:g≠k)
 (hL:∀ w':World,w'.cell? ⟨k,0,none⟩=some (.slice (some ⟨g,0,none⟩) n c)→(Instr.loadAt T (.pointer (some ⟨k,0,none⟩))).run P w'=.ok (.slice (some ⟨g,0,none⟩) n c) w')
 (h0:∀ w':World,(Instr.indexAt T (.slice (some ⟨g,0,none⟩) n c) (.int .i64 0)).run P w'=.ok (.pointer (some ⟨g,0,none⟩)) w')
 (h1:∀ w':World,(Instr.indexAt T (.slice (some ⟨g,0,none⟩) n c) (.int .i64 1)).run P w'=.ok (.pointer (some ⟨g,8,none⟩)) w')
 (hra:w.rangeAt g 0 va.toList) (hrb:w.rangeAt g 8 vb.toList) (hu:P.underlying E=some z) (hd:z.isRow=true) (hi:(P.info? E).map (·.size)=some 8) (la:va.size=8) (lb:vb.size=8)
 (t0':w.there g 0 8) (t1':w.there g 8 8) (oa:va.all (·.oneCell')=true) (ob:vb.all (·.oneCell')=true)
 (h:∀ W,W=(World.setCells { w with drawn:=w.drawn+1 } g 0 vb.toList).setCells g 8 va.toList →
  Q .normal (((((((((((((a.put (some 53) (.slice (some ⟨g,0,none⟩) n c)).put (some 54) (.slice (some ⟨g,0,none⟩) n c)).put (some 55) (.slice (some ⟨g,0,none⟩) n c)).put (some 56) (.pointer (some ⟨g,8,none⟩))).put (some 58) (.slice (some ⟨g,0,none⟩) n c)).put (some 59) (.pointer (some ⟨g,0,none⟩))).put (some 57) (.agg vb)).put (some 60) (.agg va)).put (some 61) (.pointer (some ⟨g,0,none⟩))).put none undef).put (some 62) (.pointer (some ⟨g,8,none⟩))).put none undef)) W) :
 (Code.region id #[⟨some 53,.load T (.tmp 5),t0,p0,e0,none⟩,⟨some 54,.load T (.tmp 5),t1,p1,e1,none⟩,⟨some 55,.load T (.tmp 5),t2,p2,e2,none⟩,⟨some 56,.indexAddr T (.tmp 55) (.const (.int .i64 1)),t3,p3,e3,none⟩,⟨some 57,.load E (.tmp 56),t4,p4,e4,none⟩,⟨some 58,.load T (.tmp 5),t5,p5,e5,none⟩,⟨some 59,.indexAddr T (.tmp 58) (.const (.int .i64 0)),t6,p6,e6,none⟩,⟨some 60,.load E (.tmp 59),t7,p7,e7,none⟩,⟨some 61,.indexAddr T (.tmp 53) (.const (.int .i64 0)),t8,p8,e8,none⟩,⟨none,.store E (.tmp 61) (.tmp 57),t9,p9,e9,none⟩,⟨some 62,.indexAddr T (.tmp 54) (.const (.int .i64 1)),t10,p10,e10,none⟩,⟨none,.store E (.tmp 62) (.tmp 60),t11,p11,e11,none⟩] true).wp P Q a w:=by
 obtain ⟨R,hR⟩:∃ R:Exit→Act→World→Prop,R=fun e a' w'=>e=.normal∧Q .normal a' w':=⟨_,rfl⟩
 refine Code.wp_mono (Q:=R) (fun e a' w' h'=>by rw [hR] at h';rw [h'.1];exact h'.2) ?_;have hQ:∀ c d v a w,R (.panic c) (Act.put a d v) w→R (.panic c) a w:=fun c d v a w h'=>by rw [hR] at h';exact nomatch h'.1
 have h':=fun W hW=>(show R .normal _ W from by rw [hR];exact ⟨rfl,h W hW⟩)
 clear h;have h:=h';clear h' hR;simp only [swapB,Bool.and_eq_true,decide_eq_true_eq] at hB;obtain ⟨⟨⟨⟨hsel,htk⟩,hrd⟩,hf1⟩,hf2⟩:=hB;have ne:∀ {u:Act} {d y:Nat} {v:Value},y≠d→(u.put (some d) v).eval (.tmp y)=u.eval (.tmp y):=fun hne=>eval_put_ne _ (fun e=>hne (by cases e;rfl))
 have c1:∀ u:Act,u.eval (.const (.int .i64 1))=.int .i64 1:=fun _=>rfl
 have c0:∀ u:Act,u.eval (.const (.int .i64 0))=.int .i64 0:=fun _=>rfl
 obtain ⟨ops,hops⟩:∃ ops:Array Oper,ops=(#[⟨some 53,.load T (.tmp 5),t0,p0,e0,none⟩,⟨some 54,.load T (.tmp 5),t1,p1,e1,none⟩,⟨some 55,.load T (.tmp 5),t2,p2,e2,none⟩,⟨some 56,.indexAddr T (.tmp 55) (.const (.int .i64 1)),t3,p3,e3,none⟩,⟨some 57,.load E (.tmp 56),t4,p4,e4,none⟩,⟨some 58,.load T (.tmp 5),t5,p5,e5,none⟩,⟨some 59,.indexAddr T (.tmp 58) (.const (.int .i64 0)),t6,p6,e6,none⟩,⟨some 60,.load E (.tmp 59),t7,p7,e7,none⟩,⟨some 61,.indexAddr T (.tmp 53) (.const (.int .i64 0)),t8,p8,e8,none⟩,⟨none,.store E (.tmp 61) (.tmp 57),t9,p9,e9,none⟩,⟨some 62,.indexAddr T (.tmp 54) (.const (.int .i64 1)),t10,p10,e10,none⟩,⟨none,.store E (.tmp 62) (.tmp 60),t11,p11,e11,none⟩]:Array Oper):=⟨_,rfl⟩
 have G:=fun (i:Nat) (o:Oper) (h:(#[⟨some 53,.load T (.tmp 5),t0,p0,e0,none⟩,⟨some 54,.load T (.tmp 5),t1,p1,e1,none⟩,⟨some 55,.load T (.tmp 5),t2,p2,e2,none⟩,⟨some 56,.indexAddr T (.tmp 55) (.const (.int .i64 1)),t3,p3,e3,none⟩,⟨some 57,.load E (.tmp 56),t4,p4,e4,none⟩,⟨some 58,.load T (.tmp 5),t5,p5,e5,none⟩,⟨some 59,.indexAddr T (.tmp 58) (.const (.int .i64 0)),t6,p6,e6,none⟩,⟨some 60,.load E (.tmp 59),t7,p7,e7,none⟩,⟨some 61,.indexAddr T (.tmp 53) (.const (.int .i64 0)),t8,p8,e8,none⟩,⟨none,.store E (.tmp 61) (.tmp 57),t9,p9,e9,none⟩,⟨some 62,.indexAddr T (.tmp 54) (.const (.int .i64 1)),t10,p10,e10,none⟩,⟨none,.store E (.tmp 62) (.tmp 60),t11,p11,e11,none⟩]:Array Oper)[i]?=some o)=>(show ops[i]?=some o from hops▸h)
 rw [← hops] at hsel htk hf1 hf2 hrd ⊢;refine wp_region_held (S:=fun w'=>w'.cell? ⟨k,0,none⟩=some (.slice (some ⟨g,0,none⟩) n c)) hm ?_;have hS:World.cell? { w with drawn:=w.drawn+1 } ⟨k,0,none⟩=some (.slice (some ⟨g,0,none⟩) n c):=hk;have hsz':ops.size=6+[0,1,2,3,5,6].length:=by rw [hops];rfl
 rw [hsz'] at htk hf1 hf2 hrd ⊢;refine held_takes (fuel:=6) hsel hQ hS [0,1,2,3,5,6] _ a htk ?_
 suffices H:wpAnyH P .any ops R (fun w'=>w'.cell? ⟨k,0,none⟩=some (.slice (some ⟨g,0,none⟩) n c)) 6 (listedB (Array.replicate (6+[0,1,2,3,5,6].length) false) [0,1,2,3,5,6]) ((((((a.put (some 53) (.slice (some ⟨g,0,none⟩) n c)).put (some 54) (.slice (some ⟨g,0,none⟩) n c)).put (some 55) (.slice (some ⟨g,0,none⟩) n c)).put (some 56) (.pointer (some ⟨g,8,none⟩))).put (some 58) (.slice (some ⟨g,0,none⟩) n c)).put (some 59) (.pointer (some ⟨g,0,none⟩))) { w with drawn:=w.drawn+1 } by
  refine ⟨⟨some 53,.load T (.tmp 5),t0,p0,e0,none⟩,.slice (some ⟨g,0,none⟩) n c,G 0 _ rfl,yieldsIf_at rfl fun w' hw'=>ev_load hx (hL w' hw'),?_⟩;refine ⟨⟨some 54,.load T (.tmp 5),t1,p1,e1,none⟩,.slice (some ⟨g,0,none⟩) n c,G 1 _ rfl,yieldsIf_at rfl fun w' hw'=>ev_load ((ne (by decide)).trans hx) (hL w' hw'),?_⟩;refine ⟨⟨some 55,.load T (.tmp 5),t2,p2,e2,none⟩,.slice (some ⟨g,0,none⟩) n c,G 2 _ rfl,yieldsIf_at rfl fun w' hw'=>ev_load ((ne (by decide)).trans ((ne (by decide)).trans hx)) (hL w' hw'),?_⟩;refine ⟨⟨some 56,.indexAddr T (.tmp 55) (.const (.int .i64 1)),t3,p3,e3,none⟩,.pointer (some ⟨g,8,none⟩),G 3 _ rfl,yieldsIf_at rfl fun w' _=>ev_index (eval_put_self _ (by simp only [put_size];exact Nat.lt_of_lt_of_le (by decide) hsz)) (c1 _) (h1 w'),?_⟩;refine ⟨⟨some 58,.load T (.tmp 5),t5,p5,e5,none⟩,.slice (some ⟨g,0,none⟩) n c,G 5 _ rfl,yieldsIf_at rfl fun w' hw'=>ev_load ((ne (by decide)).trans ((ne (by decide)).trans ((ne (by decide)).trans ((ne (by decide)).trans hx)))) (hL w' hw'),?_⟩;refine ⟨⟨some 59,.indexAddr T (.tmp 58) (.const (.int .i64 0)),t6,p6,e6,none⟩,.pointer (some ⟨g,0,none⟩),G 6 _ rfl,yieldsIf_at rfl fun w' _=>ev_index (eval_put_self _ (by simp only [put_size];exact Nat.lt_of_lt_of_le (by decide) hsz)) (c0 _) (h0 w'),?_⟩;exact H
 generalize hb:((((((a.put (some 53) (.slice (some ⟨g,0,none⟩) n c)).put (some 54) (.slice (some ⟨g,0,none⟩) n c)).put (some 55) (.slice (some ⟨g,0,none⟩) n c)).put (some 56) (.pointer (some ⟨g,8,none⟩))).put (some 58) (.slice (some ⟨g,0,none⟩) n c)).put (some 59) (.pointer (some ⟨g,0,none⟩)))=b at h ⊢;have b53:b.eval (.tmp 53)=.slice (some ⟨g,0,none⟩) n c:=by rw [← hb,ne (by decide),ne (by decide),ne (by decide),ne (by decide),ne (by decide)];exact eval_put_self _ (Nat.lt_of_lt_of_le (by decide) hsz)
 have b54:b.eval (.tmp 54)=.slice (some ⟨g,0,none⟩) n c:=by rw [← hb,ne (by decide),ne (by decide),ne (by decide),ne (by decide)];exact eval_put_self _ (by simp only [put_size];exact Nat.lt_of_lt_of_le (by decide) hsz)
 have b56:b.eval (.tmp 56)=.pointer (some ⟨g,8,none⟩):=by rw [← hb,ne (by decide),ne (by decide)];exact eval_put_self _ (by simp only [put_size];exact Nat.lt_of_lt_of_le (by decide) hsz)
 have b59:b.eval (.tmp 59)=.pointer (some ⟨g,0,none⟩):=by rw [← hb];exact eval_put_self _ (by simp only [put_size];exact Nat.lt_of_lt_of_le (by decide) hsz)
 have bsz:62<b.tmps.size:=by rw [← hb];simpa only [put_size] using hsz
 clear hb hx;have ra:World.rangeAt { w with drawn:=w.drawn+1 } g 0 va.toList:=hra;have rb:World.rangeAt { w with drawn:=w.drawn+1 } g 8 vb.toList:=hrb;have la':va.toList.length=8:=by simpa using la
 have lb':vb.toList.length=8:=by simpa using lb
 have L4:∀ u:Act,u.eval (.tmp 56)=.pointer (some ⟨g,8,none⟩)→(execOp u.eval ⟨some 57,.load E (.tmp 56),t4,p4,e4,none⟩).run P { w with drawn:=w.drawn+1 } = .ok (.value (.agg vb)) { w with drawn:=w.drawn+1 } := fun u hu' =>
  ev_load hu' (by simpa using run_loadAt_mid { w with drawn:=w.drawn+1 } g 8 E vb.toList z rb hu hd (by rw [hi,lb']))
 have L7:∀ u:Act,u.eval (.tmp 59)=.pointer (some ⟨g,0,none⟩)→(execOp u.eval ⟨some 60,.load E (.tmp 59),t7,p7,e7,none⟩).run P { w with drawn:=w.drawn+1 } = .ok (.value (.agg va)) { w with drawn:=w.drawn+1 } := fun u hu' =>
  ev_load hu' (by simpa using run_loadAt_mid { w with drawn:=w.drawn+1 } g 0 E va.toList z ra hu hd (by rw [hi,la']))
 have key:seqH P ops R (fun w'=>w'.cell? ⟨k,0,none⟩=some (.slice (some ⟨g,0,none⟩) n c)) [8,9,10,11] ((b.put (some 57) (.agg vb)).put (some 60) (.agg va)) { w with drawn:=w.drawn+1 } := by
  refine wpOp_at (o:=⟨some 61,.indexAddr T (.tmp 53) (.const (.int .i64 0)),t8,p8,e8,none⟩) (G _ _ rfl) rfl (ev_index ((ne (by decide)).trans ((ne (by decide)).trans b53)) (c0 _) (h0 _)) ⟨hS,?_⟩;refine wpOp_store (o:=⟨none,.store E (.tmp 61) (.tmp 57),t9,p9,e9,none⟩) (G _ _ rfl) rfl E (.tmp 61) (.tmp 57) rfl g 0 vb (eval_put_self _ (by simp only [put_size];exact Nat.lt_of_lt_of_le (by decide) bsz)) ((ne (by decide)).trans ((ne (by decide)).trans (eval_put_self _ (Nat.lt_of_lt_of_le (by decide) bsz)))) (by rw [lb];exact t0') (by rw [hi,lb]) ob ⟨?_,?_⟩
  ·exact (World.cell?_setCells_out g vb.toList 0 _ ⟨k,0,none⟩ (fun hb _=>absurd hb.symm hgk)).trans hS
  have hS2:(World.setCells { w with drawn:=w.drawn+1 } g 0 vb.toList).cell? ⟨k,0,none⟩=some (.slice (some ⟨g,0,none⟩) n c):=(World.cell?_setCells_out g vb.toList 0 _ ⟨k,0,none⟩ (fun hb _=>absurd hb.symm hgk)).trans hS;refine wpOp_at (o:=⟨some 62,.indexAddr T (.tmp 54) (.const (.int .i64 1)),t10,p10,e10,none⟩) (G _ _ rfl) rfl (ev_index (by rw [show ∀ (u:Act) (v:Value),u.put none v=u from fun _ _=>rfl,ne (by decide),ne (by decide),ne (by decide)];exact b54) (c1 _) (h1 _)) ⟨hS2,?_⟩;refine wpOp_store (o:=⟨none,.store E (.tmp 62) (.tmp 60),t11,p11,e11,none⟩) (G _ _ rfl) rfl E (.tmp 62) (.tmp 60) rfl g 8 va (eval_put_self _ (by simp only [put_size];exact Nat.lt_of_lt_of_le (by decide) bsz)) (by rw [ne (by decide),show ∀ (u:Act) (v:Value),u.put none v=u from fun _ _=>rfl,ne (by decide)];exact eval_put_self _ (by simp only [put_size];exact Nat.lt_of_lt_of_le (by decide) bsz)) ?_ (by rw [hi,la]) oa ⟨?_,h _ rfl⟩
  ·intro j hj
   rw [la] at hj;have hq:=t1' j hj;have e1:=World.cell?_setCells_out g vb.toList 0 { w with drawn:=w.drawn+1 } ⟨g,8+j,none⟩ (fun _ _=>.inr (by rw [lb'];show 0+8≤8+j;omega));refine ⟨by rw [e1];exact hq.1,?_⟩;exact (World.frozen?_setCells g vb.toList 0 _ _).trans hq.2
  ·exact (World.cell?_setCells_out g va.toList 8 _ ⟨k,0,none⟩ (fun hb _=>absurd hb.symm hgk)).trans hS2
 have hne:∀ d,(some 57:Option Tmp)=some d→(some 60:Option Tmp)≠some d:=by intro d e e';cases e;cases e'
 have h6:wpAnyH P .any ops R (fun w'=>w'.cell? ⟨k,0,none⟩=some (.slice (some ⟨g,0,none⟩) n c)) (5+1) (listedB (Array.replicate (6+[0,1,2,3,5,6].length) false) [0,1,2,3,5,6]) b { w with drawn:=w.drawn+1 } := by
  refine wpAnyH_all hrd (by simp) fun j hj => ?_
  rcases List.mem_cons.1 hj with rfl|hj
  ·refine wpOp_at (o:=⟨some 57,.load E (.tmp 56),t4,p4,e4,none⟩) (G _ _ rfl) rfl (L4 b b56) ⟨hS,?_⟩
   refine held_seq [7,8,9,10,11] _ _ _ hf1 ?_;exact wpOp_at (o:=⟨some 60,.load E (.tmp 59),t7,p7,e7,none⟩) (G _ _ rfl) rfl (L7 _ ((ne (by decide)).trans b59)) ⟨hS,key⟩
  ·obtain rfl:j=7:=by simpa using hj
   refine wpOp_at (o:=⟨some 60,.load E (.tmp 59),t7,p7,e7,none⟩) (G _ _ rfl) rfl (L7 b b59) ⟨hS,?_⟩;refine held_seq [4,8,9,10,11] _ _ _ hf2 ?_;refine wpOp_at (o:=⟨some 57,.load E (.tmp 56),t4,p4,e4,none⟩) (G _ _ rfl) rfl (L4 _ ((ne (by decide)).trans b56)) ⟨hS,?_⟩;rw [show (b.put (some 60) (.agg va)).put (some 57) (.agg vb)=(b.put (some 57) (.agg vb)).put (some 60) (.agg va) from (Act.put_comm b _ _ hne).symm];exact key
 exact h6
end Go.Proofs.YtiochgoocbkckaaGreatDoor
