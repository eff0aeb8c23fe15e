/-
  Parts of the proof: Words Enc Node Qc Open Law Shelf4 Shelf Shelf6. By an AI agent.
-/
import Derived.Test.YtmmjgmcfdnkomaaGreatDoorChecked
import Derived.Test.YtmmjgmcfdnkomaaGreatDoorProg
import Derived.Below
import Derived.Laws.OwnMore
import Derived.Deep.AppendLies
import Derived.Deep.Draws
import Derived.Maps.AppendAt
import Derived.RegionTactic
import Derived.OwnWalk
import Derived.Laws.Rows
import Derived.BigQuiet
import Derived.Deep.Slices
import Derived.Deep.Fields
import Derived.ChangeSame
import Derived.ProofKit
import Derived.OpenShut
import Derived.Deep.DeepHandedRow
import Derived.Lib.LaidTab
import Derived.SizedLaws
import Derived.Shelf.Spec.DecodeRune
import Derived.Shelf.Strings.Replace
import Derived.Shelf.Strings.Builder1
import Derived.Shelf.Small.Utf8
import Derived.Ground.NamesProg
import Derived.Ground.Names7Prog
import Derived.Shelf.Lays
import Derived.Shelf.Lays7
import Derived.Shelf.Strings.Search3
import Derived.Shelf.Strings.Cut
import Derived.Shelf.Strings.Prefix
import Derived.Shelf.Small.Strs
import Derived.Shelf.Small.Wraps
import Derived.Shelf.Strings.LastIndex
import Derived.Shelf.Strings.SlTrimAscii
import Derived.Shelf.Strings.FieldsFuncGrows
import Derived.Shelf.Strconv.Atoi
import Derived.Shelf.Strconv.Itoa3
namespace Go.Proofs.YtmmjgmcfdnkomaaGreatDoor
section
open Go.RowKit
abbrev BA:=ByteArray
theorem ah {a b c:World} (h:Below a.heap.size a b) (h':Below b.heap.size b c):Below a.heap.size a c:=h.trans (h'.mono h.size)
theorem dI (a:Addr) (n:Nat):(a.add n).block=a.block:=by unfold Addr.add;split <;> rfl
theorem nH (a:Addr) (i j:Nat):(a.add i).add j=a.add (i+j):=by unfold Addr.add;by_cases I:i=0 <;> by_cases D:j=0 <;> simp [I,D,Nat.add_assoc]
def ae (w:World) (B size:Nat) (A:Option Addr) (n:Nat) (xs:List Value):Prop:=
 xs.length=n * size∧(0<n→∃ ad,A=some ad∧ad.block<B∧∀ j u,xs[j]? = some u→w.cell? (ad.add j)=some u)
section
variable {w w':World} {B B' size n:Nat} {A:Option Addr} {xs:List Value}
theorem ae.none_:ae w B size A 0 []:=⟨by simp,fun h=>absurd h (by omega)⟩
theorem ae.at_ {k:Nat} (h:ae w B 1 A n xs) (J:k<n):∃ ad u,A=some ad∧ad.block<B∧xs[k]? = some u∧w.cell? (ad.add k)=some u:=by obtain ⟨ad,e,hb,I⟩:=h.2 (by omega);(have D:k<xs.length:=by have:=h.1;omega);exact ⟨ad,xs[k],e,hb,List.getElem?_eq_getElem D,I k _ (List.getElem?_eq_getElem D)⟩
theorem ae.keep (h:ae w B size A n xs) (I:∀ p:Addr,p.block<B→w'.cell? p=w.cell? p):ae w' B size A n xs:=
 ⟨h.1,fun D=>by obtain ⟨ad,e,hb,J⟩:=h.2 D;exact ⟨ad,e,hb,fun j u hu=>(I _ (by rw [dI];exact hb)).trans (J j u hu)⟩⟩
theorem ae.more (h:ae w B size A n xs) (J:B≤B'):ae w B' size A n xs:=
 ⟨h.1,fun D=>by obtain ⟨ad,e,hb,I⟩:=h.2 D;exact ⟨ad,e,by omega,I⟩⟩
theorem ae.below (h:ae w B size A n xs) (hb:Below B w w'):ae w' B size A n xs:=h.keep fun _ hp=>hb.cell hp
theorem ae.drew (h:ae w B size A n xs):ae w.drew B size A n xs:=h
theorem ae.drewN (h:ae w B size A n xs) (k:Nat):ae (w.drewN k) B size A n xs:=h
theorem ae.alloc (h:ae w B size A n xs) (D:B≤w.heap.size) (o:Obj):ae (w.alloc o) B size A n xs:=h.keep fun p hp=>World.cell?_alloc_lt w o p (by omega)
theorem ae.setCell (h:ae w B size A n xs) {p:Addr} (D:B≤p.block) (u:Value):ae (w.setCell p u) B size A n xs:=
 h.keep fun q hq=>World.cell?_setCell_other w p q u (fun e=>by subst e;omega)
theorem ae.grown (h:ae w B size A n xs) {row:Option Nat} (I:w.grownBy w' row) (J:B≤w.heap.size) (D:∀ g,row=some g→B≤g):ae w' B size A n xs:=
 h.keep fun p hp=>World.cell?_of_block (I.block p.block (by omega) (fun e=>by have:=D _ e.symm;omega))
theorem ae.cut (h:ae w B size A n xs) {k cap:Nat} (J:k≤n) (K:n≤cap) :
  ae w B size (if cap=k then A else A.map (·.add (k * size))) (n-k) (xs.drop (k * size)):=by refine ⟨by rw [List.length_drop,h.1,Nat.sub_mul],fun I=>?_⟩;obtain ⟨ad,rfl,hb,D⟩:=h.2 (by omega);rw [if_neg (by omega)];refine ⟨ad.add (k * size),rfl,by rw [dI];exact hb,fun j u hu=>?_⟩;rw [nH];exact D _ u (by rw [←hu,List.getElem?_drop])
theorem ae.of_own {base:Nat} {e:TypeId} {c:Nat} (h:w.ownsRow base e size (.slice A n c) n xs):ae w w.heap.size size A n xs:=by refine ⟨h.1,fun J=>?_⟩;obtain ⟨g,cap,I,_,D⟩:=h.form J;(have K:A=some ⟨g,0,none⟩:=by injection I);subst K;exact ⟨_,rfl,D,h.cells (g:=g) rfl⟩
end
def ac (w:World) (g:Nat) (t:TypeId) (cs:Array Value):Prop:=w.heap[g]? = some (.cells cs t (0,0))
section
variable {w w':World} {g:Nat} {t:TypeId} {cs:Array Value}
theorem ac.lt (h:ac w g t cs):g<w.heap.size:=by
 rcases Nat.lt_or_ge g w.heap.size with D | hge
 ·exact D
 ·unfold ac at h;rw [Array.getElem?_eq_none hge] at h;cases h
theorem ac.cell (h:ac w g t cs) (i:Nat):w.cell? ⟨g,i,none⟩=cs[i]? := cell_of_row w g i cs t (0,0) h
theorem ac.frozen (h:ac w g t cs) (i:Nat):w.frozen? ⟨g,i,none⟩=false:=by unfold ac at h;simp [World.frozen?,h]
theorem ac.new (w:World) (t:TypeId) (cs:Array Value):ac (w.alloc (.cells cs t)) w.heap.size t cs:=heap_alloc_new w _
theorem ac.drew (h:ac w g t cs):ac w.drew g t cs:=h
theorem ac.drewN (h:ac w g t cs) (n:Nat):ac (w.drewN n) g t cs:=h
theorem ac.alloc (h:ac w g t cs) (o:Obj):ac (w.alloc o) g t cs:=(Below.heap_alloc w o g h.lt).trans h
theorem ac.set_ (h:ac w g t cs) (i:Nat) (u:Value):ac (w.setCell ⟨g,i,none⟩ u) g t (cs.setIfInBounds i u):=by unfold ac at h ⊢;simp [World.setCell,Array.getElem?_modify,h]
theorem ac.far (h:ac w g t cs) {p:Addr} (D:g≠p.block) (u:Value):ac (w.setCell p u) g t cs:=(Below.heap_setCell w p u g D).trans h
theorem ac.below {B:Nat} (h:ac w g t cs) (hb:Below B w w') (D:g<B):ac w' g t cs:=(hb.block g D).trans h
theorem ac.bl (h:ac w g t cs) (hb:Below w.heap.size w w'):ac w' g t cs:=h.below hb h.lt
theorem ac.grown {row:Option Nat} (h:ac w g t cs) (hb:w.grownBy w' row) (D:some g≠row:=by intro e;injection e with e;omega):ac w' g t cs:=(hb.block g h.lt D).trans h
theorem ac.ne_ {g':Nat} {t':TypeId} {cs':Array Value} (h:ac w g t cs) (h':ac w g' t' cs') (D:t≠t'):g≠g':=by rintro rfl;unfold ac at h h';rw [h] at h';injection h' with h';injection h' with _ ht;exact D ht
theorem nI {base:Nat} {e:TypeId} {size n:Nat} {v:Value} {xs:List Value} (h:w.ownsRow base e size v n xs) (J:ac w g t cs) (D:e≠t):v.ownBlock≠some g:=by
 rcases h.2 with ⟨rfl,_⟩ | ⟨g',cap,cur,rfl,_,I,_⟩
 ·simp [Value.ownBlock]
 ·intro K;(have:g'=g:=by simpa [Value.ownBlock] using K);subst this;exact ac.ne_ (t:=e) I J D rfl
end
section
variable {P:Program} (w:World)
theorem fA (base:Nat) (t ty e:TypeId) (i:TypeInfo) (size:Nat) (J:P.underlying t=some (.slice e)) (K:P.info? e=some i)
  (v:Value) (n:Nat) (xs:List Value) (D:w.ownsRow base e size v n xs) (c:Nat):(Builtin.append_ #[t,t] ty #[v,.slice none 0 c]).run P w=.ok v w:=by
 rcases D.2 with ⟨rfl,rfl⟩ | ⟨g,cap,cur,rfl,_,_,I,_⟩
 ·simp [Builtin.append_,run_underlying J,sizeOf,typeInfo,K,Builtin.lenOf,Builtin.firstCells]
 ·simp [Builtin.append_,run_underlying J,sizeOf,typeInfo,K,Builtin.lenOf,Builtin.firstCells,I,storeCells]
theorem eh (base:Nat) (t ty e:TypeId) (i:TypeInfo) (z:Value) (size bytes:Nat) (r:P.underlying t=some (.slice e)) (x:P.info? e=some i) (y:i.zero=some z)
  (K:i.size=size) (o:i.bytes=bytes) (S:z.cells.size=size) (U:0<size)
  (v:Value) (n:Nat) (xs:List Value) (D:w.ownsRow base e size v n xs)
  (B:Nat) (A:Option Addr) (m c:Nat) (news:List Value) (Q:ae w B size A m news) (h1:∀ u∈news,u.oneCell'=true)
  (q:n+m≤maxLen) (J:(n+m) * bytes≤140737488355328) (M:base≤w.heap.size) :
  ∃ v' w',(Builtin.append_ #[t,t] ty #[v,.slice A m c]).run P w=.ok v' w'∧w'.ownsRow base e size v' (n+m) (xs++news)∧w.grownBy w' v.ownBlock ∧
    (v'.ownBlock=v.ownBlock∨v'.ownBlock=some w.heap.size):=by
 rcases A with _ | ad
 ·have hm:m=0:=by
   rcases Nat.eq_zero_or_pos m with N | N
   ·exact N
   ·obtain ⟨ad,h,_⟩:=Q.2 N;cases h
  subst hm;have k:news=[]:=List.eq_nil_of_length_eq_zero (by simpa using Q.1);subst k;exact ⟨v,w,fA w base t ty e i size r x v n xs D c,by simpa using D,World.grownBy.refl w _,.inl rfl⟩
 ·have I:∀ j u,news[j]? = some u→w.cell? (ad.add j)=some u:=by
   intro j u hu;rcases Nat.eq_zero_or_pos m with N | N
   ·subst N;have k:news=[]:=List.eq_nil_of_length_eq_zero (by simpa using Q.1);subst k;simp at hu
   ·obtain ⟨ad',h,_,hc⟩:=Q.2 N;injection h with h;subst h;exact hc j u hu
  obtain ⟨v',w',O,h2,h3,_,h5⟩:=run_append_own_at (P:=P) w base t ty e i z size bytes r x y K o S U v n xs D ad m c news Q.1 I h1 q J M;exact ⟨v',w',O,h2,h3,h5⟩
theorem eT {o:Oper} {a:Act} {K:Act→World→Prop} {Q:Exit→Act→World→Prop} (s x:Operand) (t:TypeId)
  (ho:o.op=.call { callee:=.builtin .append,args:=#[s,x],argTypes:=#[t,t] })
  (base:Nat) (e:TypeId) (i:TypeInfo) (z:Value) (size bytes:Nat) (r:P.underlying t=some (.slice e)) (hi:P.info? e=some i) (k:i.zero=some z)
  (I:i.size=size) (U:i.bytes=bytes) (O:z.cells.size=size) (S:0<size)
  (v:Value) (n:Nat) (xs:List Value) (y:a.eval s=v) (N:w.ownsRow base e size v n xs)
  (B:Nat) (A:Option Addr) (m c:Nat) (news:List Value) (q:a.eval x=.slice A m c) (hr:ae w B size A m news) (h1:∀ u∈news,u.oneCell'=true)
  (j:n+m≤maxLen) (D:(n+m) * bytes≤140737488355328) (J:base≤w.heap.size)
  (h:∀ v' w',w'.ownsRow base e size v' (n+m) (xs++news)→w.grownBy w' v.ownBlock→(v'.ownBlock=v.ownBlock∨v'.ownBlock=some w.heap.size)→K (a.put o.dst v') w'):o.wp P a w K Q:=by obtain ⟨v',w',M,h2,h3,h4⟩:=eh (P:=P) w base t o.type e i z size bytes r hi k I U O S v n xs N B A m c news hr h1 j D J;unfold Oper.wp execOp;simp only [ho,resolve,invoke,builtin,Sem.run_bind,Sem.run_pure,Result.andThen_ok,List.map_toArray,List.map_cons,List.map_nil,y,q,M];exact h v' w' h2 h3 h4
theorem c9 {ops:Array Oper} {rest:List Oper} {o:Oper} {a:Act} {Q:Exit→Act→World→Prop} (O:o.guard=none) (s x:Operand) (t:TypeId)
  (ho:o.op=.call { callee:=.builtin .append,args:=#[s,x],argTypes:=#[t,t] })
  (base:Nat) (e:TypeId) (i:TypeInfo) (z:Value) (size bytes:Nat) (q:P.underlying t=some (.slice e)) (hi:P.info? e=some i) (j:i.zero=some z)
  (I:i.size=size) (S:i.bytes=bytes) (M:z.cells.size=size) (N:0<size)
  (v:Value) (n:Nat) (xs:List Value) (r:a.eval s=v) (K:w.ownsRow base e size v n xs)
  (B:Nat) (A:Option Addr) (m c:Nat) (news:List Value) (k:a.eval x=.slice A m c) (y:ae w B size A m news) (h1:∀ u∈news,u.oneCell'=true)
  (U:n+m≤maxLen) (D:(n+m) * bytes≤140737488355328) (J:base≤w.heap.size)
  (h:∀ v' w',w'.ownsRow base e size v' (n+m) (xs++news)→w.grownBy w' v.ownBlock→(v'.ownBlock=v.ownBlock∨v'.ownBlock=some w.heap.size)→wpList P ops Q rest (a.put o.dst v') w'):wpList P ops Q (o::rest) a w:=
 wpList_plain O fun _ hK=>eT w s x t ho base e i z size bytes q hi j I S M N v n xs r K B A m c news k y h1 U D J fun v' w' h2 h3 h4=>hK _ _ (h v' w' h2 h3 h4)
theorem ed {ops:Array Oper} {o:Oper} {a:Act} {K:Act→World→Prop} {Q:Exit→Act→World→Prop} {E:Prop} (S:o.guard=none) (s x:Operand) (t:TypeId)
  (ho:o.op=.call { callee:=.builtin .append,args:=#[s,x],argTypes:=#[t,t] })
  (base:Nat) (e:TypeId) (i:TypeInfo) (z:Value) (size bytes:Nat) (y:P.underlying t=some (.slice e)) (hi:P.info? e=some i) (k:i.zero=some z)
  (I:i.size=size) (U:i.bytes=bytes) (N:z.cells.size=size) (O:0<size)
  (v:Value) (n:Nat) (xs:List Value) (hs:a.eval s=v) (M:w.ownsRow base e size v n xs)
  (B:Nat) (A:Option Addr) (m c:Nat) (news:List Value) (q:a.eval x=.slice A m c) (hr:ae w B size A m news) (h1:∀ u∈news,u.oneCell'=true)
  (j:n+m≤maxLen) (D:(n+m) * bytes≤140737488355328) (J:base≤w.heap.size)
  (h:∀ v' w',w'.ownsRow base e size v' (n+m) (xs++news)→w.grownBy w' v.ownBlock→(v'.ownBlock=v.ownBlock∨v'.ownBlock=some w.heap.size)→K (a.put o.dst v') w') :
  if Region.wanted o (yielded ops a.tmps)=true then Oper.wp P o a w K Q else E:=by (have r:Region.wanted o (yielded ops a.tmps)=true:=by simp [Region.wanted,S]);rw [if_pos r];exact eT w s x t ho base e i z size bytes y hi k I U N O v n xs hs M B A m c news q hr h1 j D J h
end
section
variable {α:Type} {enc:α→List Value} {sz:Nat}
theorem fB (D:∀ x,(enc x).length=sz) (xs:List α):(xs.flatMap enc).length=xs.length * sz:=by
 induction xs with
 | nil=>simp
 | cons x xs ih=>simp [List.flatMap_cons,ih,D,Nat.add_mul,Nat.add_comm]
theorem dt (D:∀ x,(enc x).length=sz):∀ (xs:List α) (i j:Nat) (h:i<xs.length),j<sz→(xs.flatMap enc)[i * sz+j]? = (enc xs[i])[j]?
 | [],i,j,h,_=>by simp at h
 | x::xs,0,j,_,I=>by rw [List.flatMap_cons,List.getElem?_append_left (by rw [D];omega)];simp
 | x::xs,i+1,j,h,I=>by
  (have h':i<xs.length:=by simpa using h);rw [List.flatMap_cons,List.getElem?_append_right (by rw [D,Nat.add_mul];omega),D,Nat.add_mul,Nat.one_mul,
   show i * sz+sz+j-sz=i * sz+j by omega,dt D xs i j h' I]
  simp
theorem dJ {w:World} {a:Addr} {v:Value} (h:w.cell? a=some v):a=⟨a.block,a.off,none⟩:=by
 obtain ⟨b,o,s⟩:=a;cases s with
 | none=>rfl
 | some s=>unfold World.cell? at h;simp at h;split at h <;> simp at h
theorem fb (b o i:Nat):(⟨b,o,none⟩:Addr).add i=⟨b,o+i,none⟩:=by
 unfold Addr.add;split
 ·rename_i h;subst h;rfl
 ·rfl
theorem da (w:World) (b o:Nat) (v:Value):w.grownBy (w.setCell ⟨b,o,none⟩ v) (some b):=
 ⟨rfl,rfl,rfl,by simp [World.setCell],fun k _ hne=>Below.heap_setCell w ⟨b,o,none⟩ v k (fun e=>hne (by rw [e]))⟩
theorem eV {w w':World} {b B:Nat} (h:w.grownBy w' (some b)) (hb:B≤b) (D:B≤w.heap.size):Below B w w':=
 ⟨h.os,h.tape,h.output,h.size,fun k hk=>h.block k (by omega) (fun e=>by injection e with e;omega)⟩
theorem du {w w':World} (r:Option Nat) (h:Below w.heap.size w w'):w.grownBy w' r:=⟨h.os,h.tape,h.output,h.size,fun k hk _=>h.block k hk⟩
theorem bQ {w D:World} {r:Option Nat} (h:w.grownBy D r) {b:Nat} (hb:w.heap.size≤b) (o:Nat) (v:Value):w.grownBy (D.setCell ⟨b,o,none⟩ v) r:=
 ⟨h.os,h.tape,h.output,by simpa [World.setCell] using h.size,fun k hk hne=>(Below.heap_setCell D ⟨b,o,none⟩ v k (by show k≠b;omega)).trans (h.block k hk hne)⟩
theorem ac.new_at {w:World} {n:Nat} (h:w.heap.size=n) (t:TypeId) (cs:Array Value):ac (w.alloc (.cells cs t)) n t cs:=by subst h;exact ac.new w t cs
theorem ae.el {w:World} {B n:Nat} {A:Option Addr} {xs:List α} (h:ae w B sz A n (xs.flatMap enc)) (M:∀ x,(enc x).length=sz) (U:0<sz) (q:xs.length=n) {i:Nat} (r:i<n) :
  ∃ b off,A=some ⟨b,off,none⟩∧b<B∧∀ k (J:k<xs.length) j u,(enc xs[k])[j]? = some u→w.cell? ⟨b,off+k * sz+j,none⟩=some u:=by obtain ⟨ad,S,hb,Q⟩:=h.2 (by omega);(have key:∀ k (J:k<xs.length) j u,(enc xs[k])[j]? = some u→w.cell? (ad.add (k * sz+j))=some u:=by intro k J j u I;(have O:j<sz:=by have:=(List.getElem?_eq_some_iff.1 I).1;rw [M] at this;exact this);exact Q _ u (by rw [dt M xs k j J O];exact I));have N:∃ u,(enc (xs[0]'(by omega)))[0]? = some u:=⟨(enc (xs[0]'(by omega)))[0]'(by rw [M];exact U),List.getElem?_eq_getElem _⟩;obtain ⟨u,I⟩:=N;have D:=key 0 (by omega) 0 u I;rw [show 0 * sz+0=0 by omega,show ad.add 0=ad from rfl] at D;have D:=dJ D;obtain ⟨b,o,s⟩:=ad;(have K:s=none:=by simpa using D);subst K;refine ⟨b,o,S,hb,fun k J j u I=>?_⟩;have:=key k J j u I;rw [fb,←Nat.add_assoc] at this;exact this
theorem aX {w:World} {g n B size:Nat} {t:TypeId} {fr:Nat × Nat} {cs:List Value} (h:w.heap[g]? = some (.cells cs.toArray t fr)) (D:cs.length=n * size) (I:g<B):ae w B size (some ⟨g,0,none⟩) n cs:=
 ⟨D,fun _=>⟨_,rfl,I,fun j u hu=>World.news_of_block h j u (by simpa using hu)⟩⟩
theorem cz {w:World} {n:Nat} (h:w.heap.size=n) (o:Obj):(w.alloc o).heap[n]? = some o:=by subst h;exact heap_alloc_new w o
theorem eG {w:World} {n:Nat} {o:Obj} (h:w.heap[n]? = some o) (o':Obj):(w.alloc o').heap[n]? = some o:=
 (Below.heap_alloc w o' n (Array.getElem?_eq_some_iff.1 h).1).trans h
theorem ae.len {w:World} {B n:Nat} {A:Option Addr} {xs:List α} (h:ae w B sz A n (xs.flatMap enc)) (D:∀ x,(enc x).length=sz) (I:0<sz):xs.length=n:=by have:=h.1;rw [fB D] at this;exact Nat.eq_of_mul_eq_mul_right I this
end
inductive Nd where
 | mk (kind:Int) (text:ByteArray) (kids:List Nd) (pos:Int)
namespace Nd
def kind:Nd→Int | .mk k _ _ _=>k
def text:Nd→ByteArray | .mk _ t _ _=>t
def kids:Nd→List Nd | .mk _ _ l _=>l
def pos:Nd→Int | .mk _ _ _ a=>a
@[simp] theorem kind_mk (k t l a):(Nd.mk k t l a).kind=k:=rfl
@[simp] theorem text_mk (k t l a):(Nd.mk k t l a).text=t:=rfl
@[simp] theorem kids_mk (k t l a):(Nd.mk k t l a).kids=l:=rfl
@[simp] theorem pos_mk (k t l a):(Nd.mk k t l a).pos=a:=rfl
end Nd
def nE:Nd:=.mk 0 ⟨#[]⟩ [] 0
theorem aq (w:World) (c:Array Value):Below w.heap.size w (w.alloc (.cells c 41))∧ac (w.alloc (.cells c 41)) w.heap.size 41 c:=⟨(Below.refl w.heap.size w).alloc (Nat.le_refl _) _,ac.new w _ _⟩
def a7 (X:Nat→Prop) (w:World) (size:Nat) (A:Option Addr) (n:Nat) (xs:List Value):Prop:=
 xs.length=n * size∧(0<n→∃ b off,A=some ⟨b,off,none⟩∧X b∧∀ j u,xs[j]? = some u→w.cell? ⟨b,off+j,none⟩=some u)
mutual
def bj (X:Nat→Prop) (w:World):Nd→List Value→Prop
 | .mk k t l a,cs=>∃ A cap xs,cs=[.int .i64 k,.string t,.slice A l.length cap,.int .i64 a]∧l.length≤cap∧a7 X w 4 A l.length xs∧ak X w l xs
def ak (X:Nat→Prop) (w:World):List Nd→List Value→Prop
 | [],xs=>xs=[]
 | n::l,xs=>∃ ys zs,xs=ys++zs∧bj X w n ys∧ak X w l zs
end
section
variable {X Y:Nat→Prop} {w w':World}
theorem a7.mono {size n:Nat} {A:Option Addr} {xs:List Value} (D:∀ b,X b→b<w.heap.size→Y b) (h:a7 X w size A n xs) (K:0<size):a7 Y w size A n xs:=
 ⟨h.1,fun I=>by obtain ⟨b,off,e,hb,J⟩:=h.2 I;(have M:0<xs.length:=by rw [h.1];exact Nat.mul_pos I K);have N:=J 0 xs[0] (List.getElem?_eq_getElem M);exact ⟨b,off,e,D b hb (World.block_lt_of_cell? w _ N),J⟩⟩
theorem a7.keep {size n:Nat} {A:Option Addr} {xs:List Value} (K:∀ b,X b→b<w.heap.size→w'.heap[b]? = w.heap[b]?) (h:a7 X w size A n xs):a7 X w' size A n xs:=
 ⟨h.1,fun J=>by obtain ⟨b,off,e,hb,M⟩:=h.2 J;refine ⟨b,off,e,hb,fun j u hu=>?_⟩;have I:=M j u hu;have D:=World.block_lt_of_cell? w _ I;exact (World.cell?_of_block (a:=⟨b,off+j,none⟩) (K b hb D)).trans I⟩
mutual
theorem bj.mono (D:∀ b,X b→b<w.heap.size→Y b):∀ (n:Nd) (cs:List Value),bj X w n cs→bj Y w n cs
 | .mk k t l a,cs,h=>by unfold bj at h ⊢;obtain ⟨A,cap,xs,e,K,I,J⟩:=h;exact ⟨A,cap,xs,e,K,I.mono D (by omega),ak.mono D l xs J⟩
theorem ak.mono (D:∀ b,X b→b<w.heap.size→Y b):∀ (l:List Nd) (xs:List Value),ak X w l xs→ak Y w l xs
 | [],xs,h=>by unfold ak at h ⊢;exact h
 | n::l,xs,h=>by unfold ak at h ⊢;obtain ⟨ys,zs,e,J,I⟩:=h;exact ⟨ys,zs,e,bj.mono D n ys J,ak.mono D l zs I⟩
end
mutual
theorem bj.keep (D:∀ b,X b→b<w.heap.size→w'.heap[b]? = w.heap[b]?):∀ (n:Nd) (cs:List Value),bj X w n cs→bj X w' n cs
 | .mk k t l a,cs,h=>by unfold bj at h ⊢;obtain ⟨A,cap,xs,e,K,I,J⟩:=h;exact ⟨A,cap,xs,e,K,I.keep D,ak.keep D l xs J⟩
theorem ak.keep (D:∀ b,X b→b<w.heap.size→w'.heap[b]? = w.heap[b]?):∀ (l:List Nd) (xs:List Value),ak X w l xs→ak X w' l xs
 | [],xs,h=>by unfold ak at h ⊢;exact h
 | n::l,xs,h=>by unfold ak at h ⊢;obtain ⟨ys,zs,e,J,I⟩:=h;exact ⟨ys,zs,e,bj.keep D n ys J,ak.keep D l zs I⟩
end
theorem bj.len {n:Nd} {cs:List Value} (h:bj X w n cs):cs.length=4:=by cases n;unfold bj at h;obtain ⟨A,cap,xs,e,_⟩:=h;simp [e]
theorem ak.len:∀ {l:List Nd} {xs:List Value},ak X w l xs→xs.length=l.length * 4
 | [],xs,h=>by unfold ak at h;simp [h]
 | n::l,xs,h=>by unfold ak at h;obtain ⟨ys,zs,rfl,I,D⟩:=h;rw [List.length_append,I.len,D.len,List.length_cons];omega
theorem ak.nil:ak X w [] []:=by unfold ak;rfl
theorem ak.cons {n:Nd} {l:List Nd} {ys zs:List Value} (I:bj X w n ys) (D:ak X w l zs):ak X w (n::l) (ys++zs):=by unfold ak;exact ⟨ys,zs,rfl,I,D⟩
theorem ak.one {n:Nd} {ys:List Value} (D:bj X w n ys):ak X w [n] ys:=by
 have:=ak.cons D (ak.nil (X:=X) (w:=w))
 rwa [List.append_nil] at this
theorem ak.get:∀ {l:List Nd} {xs:List Value} (i:Nat) (D:i<l.length),ak X w l xs→∃ ys,bj X w l[i] ys∧(∀ j,j<4→xs[i * 4+j]? = ys[j]?)
 | [],xs,i,D,h=>absurd D (by simp)
 | n::l,xs,0,D,h=>by unfold ak at h;obtain ⟨ys,zs,rfl,I,J⟩:=h;refine ⟨ys,I,fun j hj=>?_⟩;rw [List.getElem?_append_left (by rw [I.len];omega)];simp
 | n::l,xs,i+1,D,h=>by unfold ak at h;obtain ⟨ys,zs,rfl,I,J⟩:=h;obtain ⟨us,M,K⟩:=ak.get i (by simpa using D) J;refine ⟨us,M,fun j hj=>?_⟩;rw [List.getElem?_append_right (by rw [I.len];omega),I.len,show (i+1) * 4+j-4=i * 4+j by omega];exact K j hj
theorem ak.split:∀ {l:List Nd} {xs:List Value} (k:Nat),ak X w l xs→ak X w (l.take k) (xs.take (k * 4))∧ak X w (l.drop k) (xs.drop (k * 4))
 | l,xs,0,h=>by simpa using ⟨ak.nil,h⟩
 | [],xs,k+1,h=>by unfold ak at h;subst h;constructor <;> simpa using ak.nil
 | n::l,xs,k+1,h=>by unfold ak at h;obtain ⟨ys,zs,rfl,D,K⟩:=h;obtain ⟨J,I⟩:=ak.split k K;(have N:(ys++zs).take ((k+1) * 4)=ys++zs.take (k * 4):=by rw [List.take_append,D.len,List.take_of_length_le (by rw [D.len];omega),show (k+1) * 4-4=k * 4 by omega]);(have M:(ys++zs).drop ((k+1) * 4)=zs.drop (k * 4):=by rw [List.drop_append,D.len,List.drop_of_length_le (by rw [D.len];omega),show (k+1) * 4-4=k * 4 by omega,List.nil_append]);rw [N,M,List.take_succ_cons,List.drop_succ_cons];exact ⟨ak.cons D J,I⟩
def av (X:Nat→Prop) (w:World) (v:Value) (n:Nd):Prop:=
 ∃ A cap xs,v=.agg #[.int .i64 n.kind,.string n.text,.slice A n.kids.length cap,.int .i64 n.pos]∧n.kids.length≤cap∧a7 X w 4 A n.kids.length xs∧ak X w n.kids xs
theorem av.toC {v:Value} {n:Nd} (h:av X w v n):∃ A cap,v=.agg #[.int .i64 n.kind,.string n.text,.slice A n.kids.length cap,.int .i64 n.pos]∧bj X w n [.int .i64 n.kind,.string n.text,.slice A n.kids.length cap,.int .i64 n.pos]:=by obtain ⟨A,cap,xs,e,J,I,D⟩:=h;refine ⟨A,cap,e,?_⟩;cases n;unfold bj;exact ⟨A,cap,xs,rfl,J,I,D⟩
theorem bj.toV {n:Nd} {cs:List Value} (h:bj X w n cs):∃ A cap xs,cs=[.int .i64 n.kind,.string n.text,.slice A n.kids.length cap,.int .i64 n.pos]∧n.kids.length≤cap∧a7 X w 4 A n.kids.length xs∧ak X w n.kids xs:=by cases n;unfold bj at h;exact h
theorem av.mono {v:Value} {n:Nd} (D:∀ b,X b→b<w.heap.size→Y b) (h:av X w v n):av Y w v n:=by obtain ⟨A,cap,xs,e,K,J,I⟩:=h;exact ⟨A,cap,xs,e,K,J.mono D (by omega),I.mono D⟩
theorem av.keep {v:Value} {n:Nd} (D:∀ b,X b→b<w.heap.size→w'.heap[b]? = w.heap[b]?) (h:av X w v n):av X w' v n:=by obtain ⟨A,cap,xs,e,K,J,I⟩:=h;exact ⟨A,cap,xs,e,K,J.keep D,I.keep D⟩
theorem av.zero:av X w (.agg #[.int .i64 0,.string ⟨#[]⟩,.slice none 0 0,.int .i64 0]) nE:=
 ⟨none,0,[],rfl,Nat.le_refl _,⟨rfl,fun h=>absurd h (by simp [nE])⟩,ak.nil⟩
end
abbrev nv (n:Nd) (A:Option Addr) (c:Nat):Array Value:=#[.int .i64 n.kind,.string n.text,.slice A n.kids.length c,.int .i64 n.pos]
structure Wd (S:World→Prop) where
 wd:World
 ok:S wd
instance (w:World):Nonempty (Wd (Below w.heap.size w)):=⟨⟨w,Below.refl _ _⟩⟩
end
section
open Go.RowKit Go.ChangeShapes Go.WideShapes Go.Deep
section
variable {H:Type} {enc:TypeId × Value→H} {P:Program} {w:World} {base:Nat} {spare:Nat→Bool} {held:Bool}
theorem fC {t e:TypeId} {fs:Array Field} {fuel:Nat} {cs:List Value} {x:DataW H × List MemPlace} (ht:P.underlying t=some (.slice e)) (he:P.underlying e=some (.struct fs))
  (M:oneCellFields P fs=true) (hC:P.cellsOf e=fs.size) (h:DataW.trod enc P w base spare held fuel t cs=some x) :
  (cs=[.slice none 0 0]∧x=(.nil,[])) ∨
  ∃ (a:Addr) (len cap m:Nat) (D:Nat→DataW H) (Pl:Nat→List MemPlace),cs=[.slice (some a) len cap]∧base≤a.block∧len≤cap∧cap≤maxLen∧m=(if spare a.block then cap else len) ∧
    x=(.slice ((List.range len).map D) ((List.range (m-len)).map fun j=>D (len+j)),MemPlace.row a (m * fs.size)++(List.range m).flatMap Pl) ∧
    ∀ i,i<m→∃ (ys:List (DataW H × List MemPlace)) (n:Nat),D i=.agg (ys.map (·.1))∧Pl i=ys.flatMap (·.2)∧ys.length=fs.size ∧
      ∀ (j:Nat) (f:Field),fs[j]? = some f→∃ (v:Value) (y:DataW H × List MemPlace),w.cell? (a.add (i * fs.size+j))=some v∧ys[j]? = some y∧DataW.trod enc P w base spare held n f.type [v]=some y:=by
 rcases open_slice ht h with h0 | ⟨a,len,cap,m,n,D,Pl,k,hb,hl,hm,S,r,hi⟩
 ·exact .inl h0
 ·refine .inr ⟨a,len,cap,m,D,Pl,k,hb,hl,hm,S,by rw [hC] at r;exact r,fun i him=>?_⟩;obtain ⟨cs',z,Q⟩:=hi i him;rw [hC] at z;obtain ⟨ys,n',ga,O,u,N,hf⟩:=DataW.trod_struct he Q;obtain ⟨_,gb,o⟩:=World.cells?_some z;simp only [Prod.mk.injEq] at O;refine ⟨ys,n',O.1,O.2,N,fun j f hj=>?_⟩;obtain ⟨ho,hk⟩:=hone_of M j f hj;have U:j<fs.size:=(Array.getElem?_eq_some_iff.1 hj).1;have J:=o j U;have hv:cs'[j]? = some (cs'[j]'(by omega)):=List.getElem?_eq_getElem (by omega);have q:=hf j f hj;rw [ho,hk] at q;(have I:(cs'.drop j).take 1=[cs'[j]'(by omega)]:=by rw [List.drop_eq_getElem_cons (by omega)];rfl);rw [I] at q;have K:ys[j]? = some (ys[j]'(by omega)):=List.getElem?_eq_getElem (by omega);refine ⟨_,_,?_,K,q.trans K⟩;rw [←Go.Deep.add_add,J,hv]
end
theorem ei {α:Type} {P:Nat→α→Prop} : ∀ n:Nat,(∀ i,i<n→∃ x,P i x)→∃ l:List α,l.length=n∧∀ i (h:i<l.length),P i l[i]
 | 0,_=>⟨[],rfl,fun i h=>absurd h (by simp)⟩
 | n+1,h=>by
  obtain ⟨l,D,J⟩:=ei n (fun i hi=>h i (by omega));obtain ⟨x,I⟩:=h n (by omega);refine ⟨l++[x],by simp [D],fun i hi=>?_⟩;by_cases e:i<l.length
  ·rw [List.getElem_append_left e];exact J i e
  ·(have:i=n:=by simp at hi;omega);subst this;rw [List.getElem_append_right (by omega)];simpa [D] using I
theorem ej {α:Type} {enc:α→List Value} {sz:Nat} {w:World} {a:Addr} {n:Nat} {l:List α} (I:∀ x,(enc x).length=sz) (M:0<sz) (O:l.length=n)
  (K:∀ i (h:i<l.length) j u,(enc l[i])[j]? = some u→w.cell? (a.add (i * sz+j))=some u):ae w w.heap.size sz (some a) n (l.flatMap enc):=by
 refine ⟨by rw [fB I,O],fun J=>⟨a,rfl,?_,fun j u D=>?_⟩⟩
 ·(have S:0<l.length:=by omega);have D:(enc l[0])[0]? = some ((enc l[0])[0]'(by rw [I];exact M)):=List.getElem?_eq_getElem _;have:=World.block_lt_of_cell? w _ (K 0 S 0 _ D)
  rwa [dI] at this
 ·have U:j<l.length * sz:=by
   have:=(List.getElem?_eq_some_iff.1 D).1
   rwa [fB I] at this
  have hb:j / sz<l.length:=Nat.div_lt_of_lt_mul (by rw [Nat.mul_comm];exact U);have Q:j % sz<sz:=Nat.mod_lt _ M;have e:=dt I l (j / sz) (j % sz) hb Q;(have N:j / sz * sz+j % sz=j:=by rw [Nat.div_mul_self_eq_mod_sub_self,Nat.sub_add_cancel (Nat.mod_le j sz)]);rw [N] at e;have:=K (j / sz) hb (j % sz) u (by rw [←e];exact D)
  rwa [N] at this
section
variable {H:Type} {P:Program}
end
end
section
open Go.ChangeShapes Go.WideShapes Go.ChangeAt Go.RowKit
theorem tg:laidOutB Tryz.prog=true:=by kernel_rfl
theorem own:ownKnob Tryz.prog.godebug=none:=by kernel_rfl
section
variable {H:Type} {enc:TypeId × Value→H}
theorem eW {W W':World} (hb:Below W.heap.size W W'):∀ {ts:List TypeId} {vs:List Value} {ds:List (DataW H)} {ps:List MemPlace},(∀ t∈ts,Tryz.prog.readableRec t=true∧t<Tryz.prog.types.size) →
  DataW.TrodAll enc Tryz.prog W 0 (fun _=>true) true ts vs ds ps→(∀ x∈ps,x.block<W.heap.size)→DataW.TrodAll enc Tryz.prog W' 0 (fun b=>decide (b<W.heap.size)) true ts vs ds ps
 | [],vs,ds,ps,_,h,_=>by obtain ⟨rfl,rfl,rfl⟩:=trodAll_nil h;exact trodAll_mk0
 | t::ts,vs,ds,ps,I,h,J=>by obtain ⟨v,vs',d,ds',p,q,rfl,rfl,rfl,M,K⟩:=trodAll_cons h;have D:=I t (by simp);exact trodAll_cons_mk (Below.trod tg D.1 D.2 M hb (fun x hx=>J x (by simp [hx]))) (eW hb (fun t' ht'=>I t' (by simp [ht'])) K (fun x hx=>J x (by simp [hx])))
theorem mx {fn:Func} {s:ChangeSpec} {W W':World} {args:Array Value} {ds gs:List (DataW H)} {before:List MemPlace} {fresh handsOn:Bool}
  (O:DataW.Whole enc Tryz.prog fn.params.toList s.vars false W args.toList ds gs before) (Q:s.vars=[])
  (J:(s.fn H (ds++[])).results=[.lit (.bool true)]) (I:(s.fn H (ds++[])).args=ds) (D:(s.fn H (ds++[])).vars=[])
  (K:fn.resultTypes = #[4]) (U:∀ t∈fn.params.toList,Tryz.prog.readableRec t=true∧t<Tryz.prog.types.size) (hb:Below W.heap.size W W') :
  s.post enc Tryz.prog fn false fresh handsOn false W args (.bool true) W':=by
 have M:=O.lt;have N:=O;obtain ⟨p,q,o,S,rfl,k,j⟩:=O;rw [Q] at S;obtain ⟨rfl,rfl⟩:=trodVars_none S;refine ⟨ds,[],p++[],[],p,[],N,?_,?_,?_,hb.frame _,fun h=>by cases h⟩
 ·rw [J,K];exact trodAll_cons_mk (shut_bool Tryz.underlying4 true) trodAll_mk0
 ·rw [I];exact eW hb U o (fun x hx=>M x (by simp [hx]))
 ·rw [Q,D];rfl
end
end
end Go.Proofs.YtmmjgmcfdnkomaaGreatDoor
namespace Go.Proofs
section
open Go.Shelf
def Tryz.laysDecode_ren:Go.Shelf.Ren:=⟨fun | 32=>171 | 49=>235 | n=>n,fun | 30=>22 | 21=>21 | 3=>3 | 0=>0 | 5=>5 | 4=>4 | 33=>182 | 66=>256 | 25=>194 | 69=>259 | 68=>258 | n=>n,fun | 2=>3 | 3=>4 | n=>n⟩
theorem Tryz.laysDecode:Go.Proofs.Lays7.n32 Tryz.prog Tryz.laysDecode_ren := {
 mixed:=by kernel_rfl
 f32:=Tryz.func171.trans (congrArg some (by kernel_rfl))
 f49:=Tryz.func235.trans (congrArg some (by kernel_rfl))
 t0:=Tryz.underlying0
 a0:=Tryz.isAgg0
 z0:=Tryz.sizeOf0
 v0:=Tryz.zeroValue0
 i0:=by kernel_rfl
 t3:=Tryz.underlying3
 a3:=Tryz.isAgg3
 z3:=Tryz.sizeOf3
 v3:=Tryz.zeroValue3
 i3:=by kernel_rfl
 t4:=Tryz.underlying4
 a4:=Tryz.isAgg4
 z4:=Tryz.sizeOf4
 v4:=Tryz.zeroValue4
 i4:=by kernel_rfl
 t5:=Tryz.underlying5
 a5:=Tryz.isAgg5
 z5:=Tryz.sizeOf5
 v5:=Tryz.zeroValue5
 i5:=by kernel_rfl
 t21:=Tryz.underlying21
 a21:=Tryz.isAgg21
 z21:=Tryz.sizeOf21
 v21:=Tryz.zeroValue21
 i21:=by kernel_rfl
 t25:=Tryz.underlying194
 a25:=Tryz.isAgg194
 z25:=Tryz.sizeOf194
 v25:=Tryz.zeroValue194
 i25:=by kernel_rfl
 t30:=Tryz.underlying22
 a30:=Tryz.isAgg22
 z30:=Tryz.sizeOf22
 v30:=Tryz.zeroValue22
 i30:=by kernel_rfl
 t33:=Tryz.underlying182
 a33:=Tryz.isAgg182
 z33:=Tryz.sizeOf182
 v33:=Tryz.zeroValue182
 i33:=by kernel_rfl
 t66:=Tryz.underlying256
 a66:=Tryz.isAgg256
 z66:=Tryz.sizeOf256
 t68:=Tryz.underlying258
 a68:=Tryz.isAgg258
 z68:=Tryz.sizeOf258
 v68:=Tryz.zeroValue258
 i68:=by kernel_rfl
 t69:=Tryz.underlying259
 a69:=Tryz.isAgg259
 z69:=Tryz.sizeOf259
 v69:=Tryz.zeroValue259
 i69:=by kernel_rfl
 g2:=by kernel_rfl
 g3:=by kernel_rfl }
def Tryz.laysReplace_ren:Go.Shelf.Ren:=⟨fun | 155=>194 | 154=>243 | 138=>288 | 165=>289 | 143=>114 | 166=>240 | 197=>113 | 169=>242 | 195=>313 | 218=>314 | 240=>287 | 241=>315 | 219=>116 | 260=>158 | 276=>312 | 277=>322 | 217=>159 | 225=>160 | 224=>161 | 267=>162 | 266=>227 | 314=>228 | n=>n,fun | 9=>9 | 3=>3 | 4=>4 | 72=>274 | 0=>0 | 76=>108 | 105=>182 | 21=>21 | 5=>5 | 70=>272 | 20=>20 | 37=>22 | 75=>107 | 127=>263 | 164=>309 | 46=>194 | 119=>256 | 139=>259 | 138=>258 | 146=>260 | 51=>255 | 80=>175 | n=>n,fun | 1=>0 | 3=>3 | 4=>4 | n=>n⟩
theorem Tryz.laysReplace:Go.Proofs.Lays.n155 Tryz.prog Tryz.laysReplace_ren := {
 mixed:=by kernel_rfl
 f138:=Tryz.func288.trans (congrArg some (by kernel_rfl))
 f143:=Tryz.func114.trans (congrArg some (by kernel_rfl))
 f154:=Tryz.func243.trans (congrArg some (by kernel_rfl))
 f155:=Tryz.func194.trans (congrArg some (by kernel_rfl))
 f165:=Tryz.func289.trans (congrArg some (by kernel_rfl))
 f166:=Tryz.func240.trans (congrArg some (by kernel_rfl))
 f169:=Tryz.func242.trans (congrArg some (by kernel_rfl))
 f195:=Tryz.func313.trans (congrArg some (by kernel_rfl))
 f197:=Tryz.func113.trans (congrArg some (by kernel_rfl))
 f217:=Tryz.func159.trans (congrArg some (by kernel_rfl))
 f218:=Tryz.func314.trans (congrArg some (by kernel_rfl))
 f219:=Tryz.func116.trans (congrArg some (by kernel_rfl))
 f224:=Tryz.func161.trans (congrArg some (by kernel_rfl))
 f225:=Tryz.func160.trans (congrArg some (by kernel_rfl))
 f240:=Tryz.func287.trans (congrArg some (by kernel_rfl))
 f241:=Tryz.func315.trans (congrArg some (by kernel_rfl))
 f260:=Tryz.func158.trans (congrArg some (by kernel_rfl))
 f266:=Tryz.func227.trans (congrArg some (by kernel_rfl))
 f267:=Tryz.func162.trans (congrArg some (by kernel_rfl))
 f276:=Tryz.func312.trans (congrArg some (by kernel_rfl))
 f277:=Tryz.func322.trans (congrArg some (by kernel_rfl))
 f314:=Tryz.func228.trans (congrArg some (by kernel_rfl))
 t0:=Tryz.underlying0
 a0:=Tryz.isAgg0
 z0:=Tryz.sizeOf0
 v0:=Tryz.zeroValue0
 t3:=Tryz.underlying3
 a3:=Tryz.isAgg3
 z3:=Tryz.sizeOf3
 v3:=Tryz.zeroValue3
 t4:=Tryz.underlying4
 a4:=Tryz.isAgg4
 z4:=Tryz.sizeOf4
 v4:=Tryz.zeroValue4
 t5:=Tryz.underlying5
 a5:=Tryz.isAgg5
 z5:=Tryz.sizeOf5
 v5:=Tryz.zeroValue5
 t9:=Tryz.underlying9
 a9:=Tryz.isAgg9
 z9:=Tryz.sizeOf9
 v9:=Tryz.zeroValue9
 t20:=Tryz.underlying20
 a20:=Tryz.isAgg20
 z20:=Tryz.sizeOf20
 v20:=Tryz.zeroValue20
 t21:=Tryz.underlying21
 a21:=Tryz.isAgg21
 z21:=Tryz.sizeOf21
 v21:=Tryz.zeroValue21
 t37:=Tryz.underlying22
 a37:=Tryz.isAgg22
 z37:=Tryz.sizeOf22
 v37:=Tryz.zeroValue22
 t46:=Tryz.underlying194
 a46:=Tryz.isAgg194
 z46:=Tryz.sizeOf194
 v46:=Tryz.zeroValue194
 t51:=Tryz.underlying255
 a51:=Tryz.isAgg255
 z51:=Tryz.sizeOf255
 v51:=Tryz.zeroValue255
 t70:=Tryz.underlying272
 a70:=Tryz.isAgg272
 z70:=Tryz.sizeOf272
 v70:=Tryz.zeroValue272
 t72:=Tryz.underlying274
 a72:=Tryz.isAgg274
 z72:=Tryz.sizeOf274
 v72:=Tryz.zeroValue274
 t75:=Tryz.underlying107
 a75:=Tryz.isAgg107
 z75:=Tryz.sizeOf107
 v75:=Tryz.zeroValue107
 t76:=Tryz.underlying108
 a76:=Tryz.isAgg108
 z76:=Tryz.sizeOf108
 v76:=Tryz.zeroValue108
 t105:=Tryz.underlying182
 a105:=Tryz.isAgg182
 z105:=Tryz.sizeOf182
 v105:=Tryz.zeroValue182
 t119:=Tryz.underlying256
 a119:=Tryz.isAgg256
 z119:=Tryz.sizeOf256
 t127:=Tryz.underlying263
 a127:=Tryz.isAgg263
 z127:=Tryz.sizeOf263
 v127:=Tryz.zeroValue263
 t138:=Tryz.underlying258
 a138:=Tryz.isAgg258
 z138:=Tryz.sizeOf258
 v138:=Tryz.zeroValue258
 t139:=Tryz.underlying259
 a139:=Tryz.isAgg259
 z139:=Tryz.sizeOf259
 v139:=Tryz.zeroValue259
 t146:=Tryz.underlying260
 a146:=Tryz.isAgg260
 z146:=Tryz.sizeOf260
 v146:=Tryz.zeroValue260
 t164:=Tryz.underlying309
 a164:=Tryz.isAgg309
 z164:=Tryz.sizeOf309
 v164:=Tryz.zeroValue309
 g1:=by kernel_rfl
 g3:=by kernel_rfl
 g4:=by kernel_rfl }
def Tryz.laysBString_ren:Go.Shelf.Ren:=⟨fun | 169=>242 | n=>n,fun | 70=>272 | 9=>9 | 0=>0 | 72=>274 | 37=>22 | 127=>263 | 3=>3 | 5=>5 | n=>n,fun | n=>n⟩
theorem Tryz.laysBString:Go.Proofs.Lays.n169 Tryz.prog Tryz.laysBString_ren := {
 mixed:=by kernel_rfl
 f169:=Tryz.func242.trans (congrArg some (by kernel_rfl))
 t0:=Tryz.underlying0
 a0:=Tryz.isAgg0
 z0:=Tryz.sizeOf0
 v0:=Tryz.zeroValue0
 t3:=Tryz.underlying3
 a3:=Tryz.isAgg3
 z3:=Tryz.sizeOf3
 v3:=Tryz.zeroValue3
 t9:=Tryz.underlying9
 a9:=Tryz.isAgg9
 z9:=Tryz.sizeOf9
 v9:=Tryz.zeroValue9
 t37:=Tryz.underlying22
 a37:=Tryz.isAgg22
 z37:=Tryz.sizeOf22
 v37:=Tryz.zeroValue22
 t70:=Tryz.underlying272
 a70:=Tryz.isAgg272
 z70:=Tryz.sizeOf272
 v70:=Tryz.zeroValue272
 t72:=Tryz.underlying274
 a72:=Tryz.isAgg274
 z72:=Tryz.sizeOf274
 v72:=Tryz.zeroValue274
 t127:=Tryz.underlying263
 a127:=Tryz.isAgg263
 z127:=Tryz.sizeOf263
 v127:=Tryz.zeroValue263 }
def Tryz.laysValid_ren:Go.Shelf.Ren:=⟨fun | 119=>238 | n=>n,fun | 21=>21 | 4=>4 | n=>n,fun | n=>n⟩
theorem Tryz.laysValid:Go.Proofs.Lays.n119 Tryz.prog Tryz.laysValid_ren := {
 mixed:=by kernel_rfl
 f119:=Tryz.func238.trans (congrArg some (by kernel_rfl))
 t4:=Tryz.underlying4
 a4:=Tryz.isAgg4
 z4:=Tryz.sizeOf4
 v4:=Tryz.zeroValue4
 t21:=Tryz.underlying21
 a21:=Tryz.isAgg21
 z21:=Tryz.sizeOf21
 v21:=Tryz.zeroValue21 }
theorem Tryz.xReplace:Builder.Extra Tryz.prog Tryz.laysReplace_ren := {
 sizeBuilder:=by kernel_rfl
 liesBuilder:=by kernel_rfl
 t5:=Tryz.underlying5
 a5:=Tryz.isAgg5
 z5:=Tryz.sizeOf5
 v5:=Tryz.zeroValue5
 infoByte:=by kernel_rfl
 cellsByte:=by kernel_rfl
 sizeByte:=by kernel_rfl
 neB5:=by decide }
theorem Tryz.xBString:Builder.Extra Tryz.prog Tryz.laysBString_ren := {
 sizeBuilder:=by kernel_rfl
 liesBuilder:=by kernel_rfl
 t5:=Tryz.underlying5
 a5:=Tryz.isAgg5
 z5:=Tryz.sizeOf5
 v5:=Tryz.zeroValue5
 infoByte:=by kernel_rfl
 cellsByte:=by kernel_rfl
 sizeByte:=by kernel_rfl
 neB5:=by decide }
def Tryz.laysContains_ren:Go.Shelf.Ren:=⟨fun | 144=>142 | 143=>114 | 219=>116 | 217=>159 | 225=>160 | 224=>161 | 267=>162 | 266=>227 | 314=>228 | n=>n,fun | 9=>9 | 4=>4 | 3=>3 | 5=>5 | 46=>194 | 146=>260 | 51=>255 | n=>n,fun | 1=>0 | n=>n⟩
theorem Tryz.laysContains:Go.Proofs.Lays.n144 Tryz.prog Tryz.laysContains_ren := {
 mixed:=by kernel_rfl
 f143:=Tryz.func114.trans (congrArg some (by kernel_rfl))
 f144:=Tryz.func142.trans (congrArg some (by kernel_rfl))
 f217:=Tryz.func159.trans (congrArg some (by kernel_rfl))
 f219:=Tryz.func116.trans (congrArg some (by kernel_rfl))
 f224:=Tryz.func161.trans (congrArg some (by kernel_rfl))
 f225:=Tryz.func160.trans (congrArg some (by kernel_rfl))
 f266:=Tryz.func227.trans (congrArg some (by kernel_rfl))
 f267:=Tryz.func162.trans (congrArg some (by kernel_rfl))
 f314:=Tryz.func228.trans (congrArg some (by kernel_rfl))
 t3:=Tryz.underlying3
 a3:=Tryz.isAgg3
 z3:=Tryz.sizeOf3
 v3:=Tryz.zeroValue3
 t4:=Tryz.underlying4
 a4:=Tryz.isAgg4
 z4:=Tryz.sizeOf4
 v4:=Tryz.zeroValue4
 t5:=Tryz.underlying5
 a5:=Tryz.isAgg5
 z5:=Tryz.sizeOf5
 v5:=Tryz.zeroValue5
 t9:=Tryz.underlying9
 a9:=Tryz.isAgg9
 z9:=Tryz.sizeOf9
 v9:=Tryz.zeroValue9
 t46:=Tryz.underlying194
 a46:=Tryz.isAgg194
 z46:=Tryz.sizeOf194
 v46:=Tryz.zeroValue194
 t51:=Tryz.underlying255
 a51:=Tryz.isAgg255
 z51:=Tryz.sizeOf255
 v51:=Tryz.zeroValue255
 t146:=Tryz.underlying260
 a146:=Tryz.isAgg260
 z146:=Tryz.sizeOf260
 v146:=Tryz.zeroValue260
 g1:=by kernel_rfl }
def Tryz.laysCut_ren:Go.Shelf.Ren:=⟨fun | 145=>44 | 220=>68 | 219=>116 | 217=>159 | 225=>160 | 224=>161 | 267=>162 | 266=>227 | 314=>228 | n=>n,fun | 9=>9 | 4=>4 | 59=>104 | 3=>3 | 5=>5 | 46=>194 | 146=>260 | 51=>255 | n=>n,fun | 1=>0 | n=>n⟩
theorem Tryz.laysCut:Go.Proofs.Lays.n145 Tryz.prog Tryz.laysCut_ren := {
 mixed:=by kernel_rfl
 f145:=Tryz.func44.trans (congrArg some (by kernel_rfl))
 f217:=Tryz.func159.trans (congrArg some (by kernel_rfl))
 f219:=Tryz.func116.trans (congrArg some (by kernel_rfl))
 f220:=Tryz.func68.trans (congrArg some (by kernel_rfl))
 f224:=Tryz.func161.trans (congrArg some (by kernel_rfl))
 f225:=Tryz.func160.trans (congrArg some (by kernel_rfl))
 f266:=Tryz.func227.trans (congrArg some (by kernel_rfl))
 f267:=Tryz.func162.trans (congrArg some (by kernel_rfl))
 f314:=Tryz.func228.trans (congrArg some (by kernel_rfl))
 t3:=Tryz.underlying3
 a3:=Tryz.isAgg3
 z3:=Tryz.sizeOf3
 v3:=Tryz.zeroValue3
 t4:=Tryz.underlying4
 a4:=Tryz.isAgg4
 z4:=Tryz.sizeOf4
 v4:=Tryz.zeroValue4
 t5:=Tryz.underlying5
 a5:=Tryz.isAgg5
 z5:=Tryz.sizeOf5
 v5:=Tryz.zeroValue5
 t9:=Tryz.underlying9
 a9:=Tryz.isAgg9
 z9:=Tryz.sizeOf9
 v9:=Tryz.zeroValue9
 t46:=Tryz.underlying194
 a46:=Tryz.isAgg194
 z46:=Tryz.sizeOf194
 v46:=Tryz.zeroValue194
 t51:=Tryz.underlying255
 a51:=Tryz.isAgg255
 z51:=Tryz.sizeOf255
 v51:=Tryz.zeroValue255
 t59:=Tryz.underlying104
 a59:=Tryz.isAgg104
 z59:=Tryz.sizeOf104
 v59:=Tryz.zeroValue104
 t146:=Tryz.underlying260
 a146:=Tryz.isAgg260
 z146:=Tryz.sizeOf260
 v146:=Tryz.zeroValue260
 g1:=by kernel_rfl }
def Tryz.laysPrefix_ren:Go.Shelf.Ren:=⟨fun | 99=>172 | 206=>115 | n=>n,fun | 9=>9 | 4=>4 | 3=>3 | n=>n,fun | n=>n⟩
theorem Tryz.laysPrefix:Go.Proofs.Lays.n99 Tryz.prog Tryz.laysPrefix_ren := {
 mixed:=by kernel_rfl
 f99:=Tryz.func172.trans (congrArg some (by kernel_rfl))
 f206:=Tryz.func115.trans (congrArg some (by kernel_rfl))
 t3:=Tryz.underlying3
 a3:=Tryz.isAgg3
 z3:=Tryz.sizeOf3
 v3:=Tryz.zeroValue3
 t4:=Tryz.underlying4
 a4:=Tryz.isAgg4
 z4:=Tryz.sizeOf4
 v4:=Tryz.zeroValue4
 t9:=Tryz.underlying9
 a9:=Tryz.isAgg9
 z9:=Tryz.sizeOf9
 v9:=Tryz.zeroValue9 }
def Tryz.laysIndexByte_ren:Go.Shelf.Ren:=⟨fun | 137=>193 | 217=>159 | 266=>227 | n=>n,fun | 9=>9 | 5=>5 | 3=>3 | n=>n,fun | n=>n⟩
theorem Tryz.laysIndexByte:Go.Proofs.Lays.n137 Tryz.prog Tryz.laysIndexByte_ren := {
 mixed:=by kernel_rfl
 f137:=Tryz.func193.trans (congrArg some (by kernel_rfl))
 f217:=Tryz.func159.trans (congrArg some (by kernel_rfl))
 f266:=Tryz.func227.trans (congrArg some (by kernel_rfl))
 t3:=Tryz.underlying3
 a3:=Tryz.isAgg3
 z3:=Tryz.sizeOf3
 v3:=Tryz.zeroValue3
 t5:=Tryz.underlying5
 a5:=Tryz.isAgg5
 z5:=Tryz.sizeOf5
 v5:=Tryz.zeroValue5
 t9:=Tryz.underlying9
 a9:=Tryz.isAgg9
 z9:=Tryz.sizeOf9
 v9:=Tryz.zeroValue9 }
def Tryz.laysIndex_ren:Go.Shelf.Ren:=⟨fun | 143=>114 | 219=>116 | 217=>159 | 225=>160 | 224=>161 | 267=>162 | 266=>227 | 314=>228 | n=>n,fun | 9=>9 | 3=>3 | 4=>4 | 5=>5 | 46=>194 | 146=>260 | 51=>255 | n=>n,fun | 1=>0 | n=>n⟩
theorem Tryz.laysIndex:Go.Proofs.Lays.n143 Tryz.prog Tryz.laysIndex_ren := {
 mixed:=by kernel_rfl
 f143:=Tryz.func114.trans (congrArg some (by kernel_rfl))
 f217:=Tryz.func159.trans (congrArg some (by kernel_rfl))
 f219:=Tryz.func116.trans (congrArg some (by kernel_rfl))
 f224:=Tryz.func161.trans (congrArg some (by kernel_rfl))
 f225:=Tryz.func160.trans (congrArg some (by kernel_rfl))
 f266:=Tryz.func227.trans (congrArg some (by kernel_rfl))
 f267:=Tryz.func162.trans (congrArg some (by kernel_rfl))
 f314:=Tryz.func228.trans (congrArg some (by kernel_rfl))
 t3:=Tryz.underlying3
 a3:=Tryz.isAgg3
 z3:=Tryz.sizeOf3
 v3:=Tryz.zeroValue3
 t4:=Tryz.underlying4
 a4:=Tryz.isAgg4
 z4:=Tryz.sizeOf4
 v4:=Tryz.zeroValue4
 t5:=Tryz.underlying5
 a5:=Tryz.isAgg5
 z5:=Tryz.sizeOf5
 v5:=Tryz.zeroValue5
 t9:=Tryz.underlying9
 a9:=Tryz.isAgg9
 z9:=Tryz.sizeOf9
 v9:=Tryz.zeroValue9
 t46:=Tryz.underlying194
 a46:=Tryz.isAgg194
 z46:=Tryz.sizeOf194
 v46:=Tryz.zeroValue194
 t51:=Tryz.underlying255
 a51:=Tryz.isAgg255
 z51:=Tryz.sizeOf255
 v51:=Tryz.zeroValue255
 t146:=Tryz.underlying260
 a146:=Tryz.isAgg260
 z146:=Tryz.sizeOf260
 v146:=Tryz.zeroValue260
 g1:=by kernel_rfl }
def Tryz.laysCutP_ren:Go.Shelf.Ren:=⟨fun | 103=>43 | 210=>67 | 206=>115 | n=>n,fun | 9=>9 | 4=>4 | 24=>77 | 3=>3 | n=>n,fun | n=>n⟩
theorem Tryz.laysCutP:Go.Proofs.Lays.n103 Tryz.prog Tryz.laysCutP_ren := {
 mixed:=by kernel_rfl
 f103:=Tryz.func43.trans (congrArg some (by kernel_rfl))
 f206:=Tryz.func115.trans (congrArg some (by kernel_rfl))
 f210:=Tryz.func67.trans (congrArg some (by kernel_rfl))
 t3:=Tryz.underlying3
 a3:=Tryz.isAgg3
 z3:=Tryz.sizeOf3
 v3:=Tryz.zeroValue3
 t4:=Tryz.underlying4
 a4:=Tryz.isAgg4
 z4:=Tryz.sizeOf4
 v4:=Tryz.zeroValue4
 t9:=Tryz.underlying9
 a9:=Tryz.isAgg9
 z9:=Tryz.sizeOf9
 v9:=Tryz.zeroValue9
 t24:=Tryz.underlying77
 a24:=Tryz.isAgg77
 z24:=Tryz.sizeOf77
 v24:=Tryz.zeroValue77 }
def Tryz.laysCutS_ren:Go.Shelf.Ren:=⟨fun | 104=>27 | 211=>49 | 207=>74 | n=>n,fun | 9=>9 | 4=>4 | 24=>77 | 3=>3 | n=>n,fun | n=>n⟩
theorem Tryz.laysCutS:Go.Proofs.Lays.n104 Tryz.prog Tryz.laysCutS_ren := {
 mixed:=by kernel_rfl
 f104:=Tryz.func27.trans (congrArg some (by kernel_rfl))
 f207:=Tryz.func74.trans (congrArg some (by kernel_rfl))
 f211:=Tryz.func49.trans (congrArg some (by kernel_rfl))
 t3:=Tryz.underlying3
 a3:=Tryz.isAgg3
 z3:=Tryz.sizeOf3
 v3:=Tryz.zeroValue3
 t4:=Tryz.underlying4
 a4:=Tryz.isAgg4
 z4:=Tryz.sizeOf4
 v4:=Tryz.zeroValue4
 t9:=Tryz.underlying9
 a9:=Tryz.isAgg9
 z9:=Tryz.sizeOf9
 v9:=Tryz.zeroValue9
 t24:=Tryz.underlying77
 a24:=Tryz.isAgg77
 z24:=Tryz.sizeOf77
 v24:=Tryz.zeroValue77 }
def Tryz.laysLastB_ren:Go.Shelf.Ren:=⟨fun | 149=>76 | 222=>128 | n=>n,fun | 9=>9 | 5=>5 | 3=>3 | 4=>4 | n=>n,fun | n=>n⟩
theorem Tryz.laysLastB:Go.Proofs.Lays.n149 Tryz.prog Tryz.laysLastB_ren := {
 mixed:=by kernel_rfl
 f149:=Tryz.func76.trans (congrArg some (by kernel_rfl))
 f222:=Tryz.func128.trans (congrArg some (by kernel_rfl))
 t3:=Tryz.underlying3
 a3:=Tryz.isAgg3
 z3:=Tryz.sizeOf3
 v3:=Tryz.zeroValue3
 t4:=Tryz.underlying4
 a4:=Tryz.isAgg4
 z4:=Tryz.sizeOf4
 v4:=Tryz.zeroValue4
 t5:=Tryz.underlying5
 a5:=Tryz.isAgg5
 z5:=Tryz.sizeOf5
 v5:=Tryz.zeroValue5
 t9:=Tryz.underlying9
 a9:=Tryz.isAgg9
 z9:=Tryz.sizeOf9
 v9:=Tryz.zeroValue9 }
def Tryz.laysTrimL_ren:Go.Shelf.Ren:=⟨fun | 161=>77 | 231=>129 | 227=>83 | 233=>130 | 235=>131 | 228=>135 | 197=>113 | 151=>137 | 260=>158 | 152=>186 | 137=>193 | 119=>238 | 224=>161 | 225=>160 | 217=>159 | 266=>227 | n=>n,fun | 9=>9 | 4=>4 | 3=>3 | 5=>5 | 117=>155 | 116=>154 | 0=>0 | 124=>158 | 105=>182 | 21=>21 | 119=>256 | 46=>194 | 139=>259 | 138=>258 | n=>n,fun | 3=>3 | 4=>4 | n=>n⟩
theorem Tryz.laysTrimL:Go.Proofs.Lays.n161 Tryz.prog Tryz.laysTrimL_ren := {
 mixed:=by kernel_rfl
 f119:=Tryz.func238.trans (congrArg some (by kernel_rfl))
 f137:=Tryz.func193.trans (congrArg some (by kernel_rfl))
 f151:=Tryz.func137.trans (congrArg some (by kernel_rfl))
 f152:=Tryz.func186.trans (congrArg some (by kernel_rfl))
 f161:=Tryz.func77.trans (congrArg some (by kernel_rfl))
 f197:=Tryz.func113.trans (congrArg some (by kernel_rfl))
 f217:=Tryz.func159.trans (congrArg some (by kernel_rfl))
 f224:=Tryz.func161.trans (congrArg some (by kernel_rfl))
 f225:=Tryz.func160.trans (congrArg some (by kernel_rfl))
 f227:=Tryz.func83.trans (congrArg some (by kernel_rfl))
 f228:=Tryz.func135.trans (congrArg some (by kernel_rfl))
 f231:=Tryz.func129.trans (congrArg some (by kernel_rfl))
 f233:=Tryz.func130.trans (congrArg some (by kernel_rfl))
 f235:=Tryz.func131.trans (congrArg some (by kernel_rfl))
 f260:=Tryz.func158.trans (congrArg some (by kernel_rfl))
 f266:=Tryz.func227.trans (congrArg some (by kernel_rfl))
 t0:=Tryz.underlying0
 a0:=Tryz.isAgg0
 z0:=Tryz.sizeOf0
 v0:=Tryz.zeroValue0
 t3:=Tryz.underlying3
 a3:=Tryz.isAgg3
 z3:=Tryz.sizeOf3
 v3:=Tryz.zeroValue3
 t4:=Tryz.underlying4
 a4:=Tryz.isAgg4
 z4:=Tryz.sizeOf4
 v4:=Tryz.zeroValue4
 t5:=Tryz.underlying5
 a5:=Tryz.isAgg5
 z5:=Tryz.sizeOf5
 v5:=Tryz.zeroValue5
 t9:=Tryz.underlying9
 a9:=Tryz.isAgg9
 z9:=Tryz.sizeOf9
 v9:=Tryz.zeroValue9
 t21:=Tryz.underlying21
 a21:=Tryz.isAgg21
 z21:=Tryz.sizeOf21
 v21:=Tryz.zeroValue21
 t46:=Tryz.underlying194
 a46:=Tryz.isAgg194
 z46:=Tryz.sizeOf194
 v46:=Tryz.zeroValue194
 t105:=Tryz.underlying182
 a105:=Tryz.isAgg182
 z105:=Tryz.sizeOf182
 v105:=Tryz.zeroValue182
 t116:=Tryz.underlying154
 a116:=Tryz.isAgg154
 z116:=Tryz.sizeOf154
 t117:=Tryz.underlying155
 a117:=Tryz.isAgg155
 z117:=Tryz.sizeOf155
 v117:=Tryz.zeroValue155
 t119:=Tryz.underlying256
 a119:=Tryz.isAgg256
 z119:=Tryz.sizeOf256
 t124:=Tryz.underlying158
 a124:=Tryz.isAgg158
 z124:=Tryz.sizeOf158
 v124:=Tryz.zeroValue158
 t138:=Tryz.underlying258
 a138:=Tryz.isAgg258
 z138:=Tryz.sizeOf258
 v138:=Tryz.zeroValue258
 t139:=Tryz.underlying259
 a139:=Tryz.isAgg259
 z139:=Tryz.sizeOf259
 v139:=Tryz.zeroValue259
 g3:=by kernel_rfl
 g4:=by kernel_rfl }
def Tryz.laysTrimR_ren:Go.Shelf.Ren:=⟨fun | 162=>54 | 232=>82 | 227=>83 | 234=>84 | 236=>85 | 228=>135 | 271=>136 | 151=>137 | 120=>185 | 197=>113 | 152=>186 | 260=>158 | 137=>193 | 119=>238 | 224=>161 | 225=>160 | 217=>159 | 266=>227 | n=>n,fun | 9=>9 | 4=>4 | 3=>3 | 5=>5 | 117=>155 | 116=>154 | 0=>0 | 124=>158 | 21=>21 | 105=>182 | 46=>194 | 119=>256 | 139=>259 | 138=>258 | n=>n,fun | 3=>3 | 4=>4 | n=>n⟩
theorem Tryz.laysTrimR:Go.Proofs.Lays.n162 Tryz.prog Tryz.laysTrimR_ren := {
 mixed:=by kernel_rfl
 f119:=Tryz.func238.trans (congrArg some (by kernel_rfl))
 f120:=Tryz.func185.trans (congrArg some (by kernel_rfl))
 f137:=Tryz.func193.trans (congrArg some (by kernel_rfl))
 f151:=Tryz.func137.trans (congrArg some (by kernel_rfl))
 f152:=Tryz.func186.trans (congrArg some (by kernel_rfl))
 f162:=Tryz.func54.trans (congrArg some (by kernel_rfl))
 f197:=Tryz.func113.trans (congrArg some (by kernel_rfl))
 f217:=Tryz.func159.trans (congrArg some (by kernel_rfl))
 f224:=Tryz.func161.trans (congrArg some (by kernel_rfl))
 f225:=Tryz.func160.trans (congrArg some (by kernel_rfl))
 f227:=Tryz.func83.trans (congrArg some (by kernel_rfl))
 f228:=Tryz.func135.trans (congrArg some (by kernel_rfl))
 f232:=Tryz.func82.trans (congrArg some (by kernel_rfl))
 f234:=Tryz.func84.trans (congrArg some (by kernel_rfl))
 f236:=Tryz.func85.trans (congrArg some (by kernel_rfl))
 f260:=Tryz.func158.trans (congrArg some (by kernel_rfl))
 f266:=Tryz.func227.trans (congrArg some (by kernel_rfl))
 f271:=Tryz.func136.trans (congrArg some (by kernel_rfl))
 t0:=Tryz.underlying0
 a0:=Tryz.isAgg0
 z0:=Tryz.sizeOf0
 v0:=Tryz.zeroValue0
 t3:=Tryz.underlying3
 a3:=Tryz.isAgg3
 z3:=Tryz.sizeOf3
 v3:=Tryz.zeroValue3
 t4:=Tryz.underlying4
 a4:=Tryz.isAgg4
 z4:=Tryz.sizeOf4
 v4:=Tryz.zeroValue4
 t5:=Tryz.underlying5
 a5:=Tryz.isAgg5
 z5:=Tryz.sizeOf5
 v5:=Tryz.zeroValue5
 t9:=Tryz.underlying9
 a9:=Tryz.isAgg9
 z9:=Tryz.sizeOf9
 v9:=Tryz.zeroValue9
 t21:=Tryz.underlying21
 a21:=Tryz.isAgg21
 z21:=Tryz.sizeOf21
 v21:=Tryz.zeroValue21
 t46:=Tryz.underlying194
 a46:=Tryz.isAgg194
 z46:=Tryz.sizeOf194
 v46:=Tryz.zeroValue194
 t105:=Tryz.underlying182
 a105:=Tryz.isAgg182
 z105:=Tryz.sizeOf182
 v105:=Tryz.zeroValue182
 t116:=Tryz.underlying154
 a116:=Tryz.isAgg154
 z116:=Tryz.sizeOf154
 t117:=Tryz.underlying155
 a117:=Tryz.isAgg155
 z117:=Tryz.sizeOf155
 v117:=Tryz.zeroValue155
 t119:=Tryz.underlying256
 a119:=Tryz.isAgg256
 z119:=Tryz.sizeOf256
 t124:=Tryz.underlying158
 a124:=Tryz.isAgg158
 z124:=Tryz.sizeOf158
 v124:=Tryz.zeroValue158
 t138:=Tryz.underlying258
 a138:=Tryz.isAgg258
 z138:=Tryz.sizeOf258
 v138:=Tryz.zeroValue258
 t139:=Tryz.underlying259
 a139:=Tryz.isAgg259
 z139:=Tryz.sizeOf259
 v139:=Tryz.zeroValue259
 g3:=by kernel_rfl
 g4:=by kernel_rfl }
def Tryz.laysFields_ren:Go.Shelf.Ren:=⟨fun | 229=>65 | n=>n,fun | 9=>9 | 40=>101 | 31=>24 | 152=>184 | 3=>3 | 0=>0 | 4=>4 | 21=>21 | 154=>186 | n=>n,fun | n=>n⟩
theorem Tryz.laysFields:Go.Proofs.Lays.n229 Tryz.prog Tryz.laysFields_ren := {
 mixed:=by kernel_rfl
 f229:=Tryz.func65.trans (congrArg some (by kernel_rfl))
 t0:=Tryz.underlying0
 a0:=Tryz.isAgg0
 z0:=Tryz.sizeOf0
 v0:=Tryz.zeroValue0
 t3:=Tryz.underlying3
 a3:=Tryz.isAgg3
 z3:=Tryz.sizeOf3
 v3:=Tryz.zeroValue3
 t4:=Tryz.underlying4
 a4:=Tryz.isAgg4
 z4:=Tryz.sizeOf4
 v4:=Tryz.zeroValue4
 t9:=Tryz.underlying9
 a9:=Tryz.isAgg9
 z9:=Tryz.sizeOf9
 v9:=Tryz.zeroValue9
 t21:=Tryz.underlying21
 a21:=Tryz.isAgg21
 z21:=Tryz.sizeOf21
 v21:=Tryz.zeroValue21
 t31:=Tryz.underlying24
 a31:=Tryz.isAgg24
 z31:=Tryz.sizeOf24
 v31:=Tryz.zeroValue24
 t40:=Tryz.underlying101
 a40:=Tryz.isAgg101
 z40:=Tryz.sizeOf101
 v40:=Tryz.zeroValue101
 t152:=Tryz.underlying184
 a152:=Tryz.isAgg184
 z152:=Tryz.sizeOf184
 v152:=Tryz.zeroValue184
 t154:=Tryz.underlying186
 a154:=Tryz.isAgg186
 z154:=Tryz.sizeOf186
 v154:=Tryz.zeroValue186 }
def Tryz.laysAtoi_ren:Go.Shelf.Ren:=⟨fun | 172=>45 | 244=>69 | 245=>70 | 247=>117 | 279=>118 | 280=>119 | 281=>120 | 282=>121 | 287=>163 | 316=>164 | 171=>46 | 205=>165 | 321=>229 | 322=>230 | 243=>71 | 246=>122 | 283=>166 | 284=>167 | 285=>168 | 286=>169 | 129=>226 | 317=>231 | 318=>232 | 319=>233 | 320=>234 | 337=>283 | 338=>284 | n=>n,fun | 9=>9 | 3=>3 | 75=>107 | 76=>108 | 4=>4 | 5=>5 | 167=>187 | 37=>22 | 0=>0 | 85=>188 | 2=>2 | 168=>190 | 53=>216 | 175=>217 | 46=>194 | 210=>221 | 127=>263 | 145=>266 | 143=>264 | 21=>21 | 171=>223 | 173=>226 | 212=>268 | 51=>255 | 20=>20 | 213=>269 | 232=>307 | 233=>308 | 80=>175 | n=>n,fun | 15=>1 | 16=>2 | 17=>5 | 18=>6 | 19=>7 | n=>n⟩
theorem Tryz.laysAtoi:Go.Proofs.Lays.n172 Tryz.prog Tryz.laysAtoi_ren := {
 mixed:=by kernel_rfl
 f129:=Tryz.func226.trans (congrArg some (by kernel_rfl))
 f171:=Tryz.func46.trans (congrArg some (by kernel_rfl))
 f172:=Tryz.func45.trans (congrArg some (by kernel_rfl))
 f205:=Tryz.func165.trans (congrArg some (by kernel_rfl))
 f243:=Tryz.func71.trans (congrArg some (by kernel_rfl))
 f244:=Tryz.func69.trans (congrArg some (by kernel_rfl))
 f245:=Tryz.func70.trans (congrArg some (by kernel_rfl))
 f246:=Tryz.func122.trans (congrArg some (by kernel_rfl))
 f247:=Tryz.func117.trans (congrArg some (by kernel_rfl))
 f279:=Tryz.func118.trans (congrArg some (by kernel_rfl))
 f280:=Tryz.func119.trans (congrArg some (by kernel_rfl))
 f281:=Tryz.func120.trans (congrArg some (by kernel_rfl))
 f282:=Tryz.func121.trans (congrArg some (by kernel_rfl))
 f283:=Tryz.func166.trans (congrArg some (by kernel_rfl))
 f284:=Tryz.func167.trans (congrArg some (by kernel_rfl))
 f285:=Tryz.func168.trans (congrArg some (by kernel_rfl))
 f286:=Tryz.func169.trans (congrArg some (by kernel_rfl))
 f287:=Tryz.func163.trans (congrArg some (by kernel_rfl))
 f316:=Tryz.func164.trans (congrArg some (by kernel_rfl))
 f317:=Tryz.func231.trans (congrArg some (by kernel_rfl))
 f318:=Tryz.func232.trans (congrArg some (by kernel_rfl))
 f319:=Tryz.func233.trans (congrArg some (by kernel_rfl))
 f320:=Tryz.func234.trans (congrArg some (by kernel_rfl))
 f321:=Tryz.func229.trans (congrArg some (by kernel_rfl))
 f322:=Tryz.func230.trans (congrArg some (by kernel_rfl))
 f337:=Tryz.func283.trans (congrArg some (by kernel_rfl))
 f338:=Tryz.func284.trans (congrArg some (by kernel_rfl))
 t0:=Tryz.underlying0
 a0:=Tryz.isAgg0
 z0:=Tryz.sizeOf0
 v0:=Tryz.zeroValue0
 t2:=Tryz.underlying2
 a2:=Tryz.isAgg2
 z2:=Tryz.sizeOf2
 v2:=Tryz.zeroValue2
 t3:=Tryz.underlying3
 a3:=Tryz.isAgg3
 z3:=Tryz.sizeOf3
 v3:=Tryz.zeroValue3
 t4:=Tryz.underlying4
 a4:=Tryz.isAgg4
 z4:=Tryz.sizeOf4
 v4:=Tryz.zeroValue4
 t5:=Tryz.underlying5
 a5:=Tryz.isAgg5
 z5:=Tryz.sizeOf5
 v5:=Tryz.zeroValue5
 t9:=Tryz.underlying9
 a9:=Tryz.isAgg9
 z9:=Tryz.sizeOf9
 v9:=Tryz.zeroValue9
 t20:=Tryz.underlying20
 a20:=Tryz.isAgg20
 z20:=Tryz.sizeOf20
 v20:=Tryz.zeroValue20
 t21:=Tryz.underlying21
 a21:=Tryz.isAgg21
 z21:=Tryz.sizeOf21
 v21:=Tryz.zeroValue21
 t37:=Tryz.underlying22
 a37:=Tryz.isAgg22
 z37:=Tryz.sizeOf22
 v37:=Tryz.zeroValue22
 t46:=Tryz.underlying194
 a46:=Tryz.isAgg194
 z46:=Tryz.sizeOf194
 v46:=Tryz.zeroValue194
 t51:=Tryz.underlying255
 a51:=Tryz.isAgg255
 z51:=Tryz.sizeOf255
 v51:=Tryz.zeroValue255
 t53:=Tryz.underlying216
 a53:=Tryz.isAgg216
 z53:=Tryz.sizeOf216
 v53:=Tryz.zeroValue216
 t75:=Tryz.underlying107
 a75:=Tryz.isAgg107
 z75:=Tryz.sizeOf107
 v75:=Tryz.zeroValue107
 t76:=Tryz.underlying108
 a76:=Tryz.isAgg108
 z76:=Tryz.sizeOf108
 v76:=Tryz.zeroValue108
 t85:=Tryz.underlying188
 a85:=Tryz.isAgg188
 z85:=Tryz.sizeOf188
 v85:=Tryz.zeroValue188
 t127:=Tryz.underlying263
 a127:=Tryz.isAgg263
 z127:=Tryz.sizeOf263
 v127:=Tryz.zeroValue263
 t143:=Tryz.underlying264
 a143:=Tryz.isAgg264
 z143:=Tryz.sizeOf264
 v143:=Tryz.zeroValue264
 t145:=Tryz.underlying266
 a145:=Tryz.isAgg266
 z145:=Tryz.sizeOf266
 v145:=Tryz.zeroValue266
 t167:=Tryz.underlying187
 a167:=Tryz.isAgg187
 z167:=Tryz.sizeOf187
 v167:=Tryz.zeroValue187
 t168:=Tryz.underlying190
 a168:=Tryz.isAgg190
 z168:=Tryz.sizeOf190
 v168:=Tryz.zeroValue190
 t171:=Tryz.underlying223
 a171:=Tryz.isAgg223
 z171:=Tryz.sizeOf223
 v171:=Tryz.zeroValue223
 t173:=Tryz.underlying226
 a173:=Tryz.isAgg226
 z173:=Tryz.sizeOf226
 v173:=Tryz.zeroValue226
 t175:=Tryz.underlying217
 a175:=Tryz.isAgg217
 z175:=Tryz.sizeOf217
 v175:=Tryz.zeroValue217
 t210:=Tryz.underlying221
 a210:=Tryz.isAgg221
 z210:=Tryz.sizeOf221
 v210:=Tryz.zeroValue221
 t212:=Tryz.underlying268
 a212:=Tryz.isAgg268
 z212:=Tryz.sizeOf268
 v212:=Tryz.zeroValue268
 t213:=Tryz.underlying269
 a213:=Tryz.isAgg269
 z213:=Tryz.sizeOf269
 t232:=Tryz.underlying307
 a232:=Tryz.isAgg307
 z232:=Tryz.sizeOf307
 v232:=Tryz.zeroValue307
 t233:=Tryz.underlying308
 a233:=Tryz.isAgg308
 z233:=Tryz.sizeOf308
 v233:=Tryz.zeroValue308
 g15:=by kernel_rfl
 g16:=by kernel_rfl
 g17:=by kernel_rfl
 g18:=by kernel_rfl
 g19:=by kernel_rfl }
def Tryz.laysItoa_ren:Go.Shelf.Ren:=⟨fun | 171=>46 | 243=>71 | 246=>122 | 283=>166 | 284=>167 | 285=>168 | 286=>169 | 129=>226 | 317=>231 | 318=>232 | 319=>233 | 320=>234 | 337=>283 | 338=>284 | n=>n,fun | 3=>3 | 9=>9 | 2=>2 | 4=>4 | 171=>223 | 0=>0 | 53=>216 | 37=>22 | 5=>5 | 173=>226 | 212=>268 | 51=>255 | 20=>20 | 213=>269 | 46=>194 | 232=>307 | 233=>308 | n=>n,fun | 17=>5 | 18=>6 | 19=>7 | n=>n⟩
theorem Tryz.laysItoa:Go.Proofs.Lays.n171 Tryz.prog Tryz.laysItoa_ren := {
 mixed:=by kernel_rfl
 f129:=Tryz.func226.trans (congrArg some (by kernel_rfl))
 f171:=Tryz.func46.trans (congrArg some (by kernel_rfl))
 f243:=Tryz.func71.trans (congrArg some (by kernel_rfl))
 f246:=Tryz.func122.trans (congrArg some (by kernel_rfl))
 f283:=Tryz.func166.trans (congrArg some (by kernel_rfl))
 f284:=Tryz.func167.trans (congrArg some (by kernel_rfl))
 f285:=Tryz.func168.trans (congrArg some (by kernel_rfl))
 f286:=Tryz.func169.trans (congrArg some (by kernel_rfl))
 f317:=Tryz.func231.trans (congrArg some (by kernel_rfl))
 f318:=Tryz.func232.trans (congrArg some (by kernel_rfl))
 f319:=Tryz.func233.trans (congrArg some (by kernel_rfl))
 f320:=Tryz.func234.trans (congrArg some (by kernel_rfl))
 f337:=Tryz.func283.trans (congrArg some (by kernel_rfl))
 f338:=Tryz.func284.trans (congrArg some (by kernel_rfl))
 t0:=Tryz.underlying0
 a0:=Tryz.isAgg0
 z0:=Tryz.sizeOf0
 v0:=Tryz.zeroValue0
 t2:=Tryz.underlying2
 a2:=Tryz.isAgg2
 z2:=Tryz.sizeOf2
 v2:=Tryz.zeroValue2
 t3:=Tryz.underlying3
 a3:=Tryz.isAgg3
 z3:=Tryz.sizeOf3
 v3:=Tryz.zeroValue3
 t4:=Tryz.underlying4
 a4:=Tryz.isAgg4
 z4:=Tryz.sizeOf4
 v4:=Tryz.zeroValue4
 t5:=Tryz.underlying5
 a5:=Tryz.isAgg5
 z5:=Tryz.sizeOf5
 v5:=Tryz.zeroValue5
 t9:=Tryz.underlying9
 a9:=Tryz.isAgg9
 z9:=Tryz.sizeOf9
 v9:=Tryz.zeroValue9
 t20:=Tryz.underlying20
 a20:=Tryz.isAgg20
 z20:=Tryz.sizeOf20
 v20:=Tryz.zeroValue20
 t37:=Tryz.underlying22
 a37:=Tryz.isAgg22
 z37:=Tryz.sizeOf22
 v37:=Tryz.zeroValue22
 t46:=Tryz.underlying194
 a46:=Tryz.isAgg194
 z46:=Tryz.sizeOf194
 v46:=Tryz.zeroValue194
 t51:=Tryz.underlying255
 a51:=Tryz.isAgg255
 z51:=Tryz.sizeOf255
 v51:=Tryz.zeroValue255
 t53:=Tryz.underlying216
 a53:=Tryz.isAgg216
 z53:=Tryz.sizeOf216
 v53:=Tryz.zeroValue216
 t171:=Tryz.underlying223
 a171:=Tryz.isAgg223
 z171:=Tryz.sizeOf223
 v171:=Tryz.zeroValue223
 t173:=Tryz.underlying226
 a173:=Tryz.isAgg226
 z173:=Tryz.sizeOf226
 v173:=Tryz.zeroValue226
 t212:=Tryz.underlying268
 a212:=Tryz.isAgg268
 z212:=Tryz.sizeOf268
 v212:=Tryz.zeroValue268
 t213:=Tryz.underlying269
 a213:=Tryz.isAgg269
 z213:=Tryz.sizeOf269
 t232:=Tryz.underlying307
 a232:=Tryz.isAgg307
 z232:=Tryz.sizeOf307
 v232:=Tryz.zeroValue307
 t233:=Tryz.underlying308
 a233:=Tryz.isAgg308
 z233:=Tryz.sizeOf308
 v233:=Tryz.zeroValue308
 g17:=by kernel_rfl
 g18:=by kernel_rfl
 g19:=by kernel_rfl }
end
end Go.Proofs
