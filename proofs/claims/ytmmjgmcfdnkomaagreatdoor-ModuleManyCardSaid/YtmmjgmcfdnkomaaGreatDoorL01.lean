/-
  Parts of the proof: Dplain Lspec Rspec Tspec Rmem Rsmall Rrow Rfree Rkit Rkit2 Smem Rcons Rfields Tkit Mlib. By an AI agent.
-/
import Derived.Test.YtmmjgmcfdnkomaaGreatDoorL00
import Derived.Test.YtmmjgmcfdnkomaaGreatDoorProg
import Derived.Lib.IndexMore
import Derived.WalkKit
import Derived.Lib.Hide
import Derived.WalkLawsBesides
import Derived.WalkSpells
import Derived.RegionTactic
import Derived.Deep.QuietTactic
import Derived.BigQuiet
import Derived.Deep.DeepCutAuto
import Derived.Deep.CutBlock
import Derived.Deep.RegionHeld3
import Derived.Deep.RegionWith
import Derived.StillTailTactics
import Derived.Outline
import Derived.Deep.DrawnRows
import Derived.Deep.Draws
import Derived.Deep.RegionHeld2
import Derived.Defers
import Derived.Recover
import Derived.IntWalk
import Derived.Deep.RegionLaw
import Derived.Lib.UnsafeStr
set_option maxRecDepth 100000
set_option maxHeartbeats 8000000
namespace Go.Proofs.YtmmjgmcfdnkomaaGreatDoor
section
def af (s:ByteArray) (i:Nat):Nat:=(s.data.toList.getD i 0).toNat
theorem eJ (s:ByteArray) (i:Nat):af s i<256:=UInt8.toNat_lt _
theorem iH (s:ByteArray) (j:Nat):(s.get! j).toNat=af s j:=by obtain ⟨bs⟩:=s;show (bs[j]!).toNat=(bs.toList.getD j 0).toNat;rw [Array.getElem!_eq_getD,List.getD_eq_getElem?_getD,Array.getD_eq_getD_getElem?,Array.getElem?_toList];rfl
def rp (y0 y1 y2 y3:Nat) (c1 c2 c3:Prop) [Decidable c1] [Decidable c2] [Decidable c3]:Nat × Nat:=
 if y0<128 then (y0,1)
 else if y0 / 32=6∧c1∧y1 / 64=2 then (if 128≤y0 % 32 * 64+y1 % 64 then (y0 % 32 * 64+y1 % 64,2) else (65533,1))
 else if y0 / 16=14∧(c1∧y1 / 64=2)∧(c2∧y2 / 64=2) then (if 2048≤y0 % 16 * 4096+y1 % 64 * 64+y2 % 64∧Utf8.valid ((y0 % 16 * 4096+y1 % 64 * 64+y2 % 64:Nat):Int)=true then (y0 % 16 * 4096+y1 % 64 * 64+y2 % 64,3) else (65533,1))
 else if y0 / 8=30∧(c1∧y1 / 64=2)∧(c2∧y2 / 64=2)∧(c3∧y3 / 64=2) then (if 65536≤y0 % 8 * 262144+y1 % 64 * 4096+y2 % 64 * 64+y3 % 64∧Utf8.valid ((y0 % 8 * 262144+y1 % 64 * 4096+y2 % 64 * 64+y3 % 64:Nat):Int)=true then (y0 % 8 * 262144+y1 % 64 * 4096+y2 % 64 * 64+y3 % 64,4) else (65533,1))
 else (65533,1)
theorem dv (s:ByteArray) (i:Nat):Utf8.decode s i=rp (af s i) (af s (i+1)) (af s (i+2)) (af s (i+3)) (i+1<s.size) (i+2<s.size) (i+3<s.size):=by unfold rp;simp only [Utf8.decode,iH,Nat.add_zero,Bool.and_eq_true,decide_eq_true_eq,beq_iff_eq,ge_iff_le,Utf8.runeError,and_assoc]
theorem dL (s:ByteArray) (i:Nat) (h:af s i<128):Utf8.decode s i=(af s i,1):=by rw [dv,rp,if_pos h]
theorem decode_high (s:ByteArray) (i:Nat) (J:i<s.size) (h:128≤af s i) :
  128≤(Utf8.decode s i).1∧1≤(Utf8.decode s i).2∧i+(Utf8.decode s i).2≤s.size∧∀ m,m<(Utf8.decode s i).2→128≤af s (i+m):=by
 (have one:∀ m,m<1→128≤af s (i+m):=fun m D=>by (obtain rfl:m=0:=by omega);exact h);rw [dv,rp,if_neg (by omega)];split
 ·rename_i I;split
  ·refine ⟨by omega,by omega,by simp only;omega,fun m D=>?_⟩;have D:m<2:=D;rcases (by omega:m=0∨m=1) with rfl | rfl
   ·exact h
   ·omega
  ·exact ⟨by omega,by omega,by simp only;omega,one⟩
 ·split
  ·rename_i I;split
   ·refine ⟨by omega,by omega,by simp only;omega,fun m D=>?_⟩;have D:m<3:=D;rcases (by omega:m=0∨m=1∨m=2) with rfl | rfl | rfl
    ·exact h
    ·omega
    ·omega
   ·exact ⟨by omega,by omega,by simp only;omega,one⟩
  ·split
   ·rename_i I;split
    ·refine ⟨by omega,by omega,by simp only;omega,fun m D=>?_⟩;have D:m<4:=D;rcases (by omega:m=0∨m=1∨m=2∨m=3) with rfl | rfl | rfl | rfl
     ·exact h
     ·omega
     ·omega
     ·omega
    ·exact ⟨by omega,by omega,by simp only;omega,one⟩
   ·exact ⟨by omega,by omega,by simp only;omega,one⟩
theorem aY (s:ByteArray) (i j:Nat):af (s.extract i s.size) j=af s (i+j):=by unfold af;rw [ByteArray.data_extract,Array.toList_extract,List.extract_eq_take_drop,List.take_of_length_le (by rw [List.length_drop];exact Nat.le_of_eq rfl),List.getD_eq_getElem?_getD,List.getElem?_drop,←List.getD_eq_getElem?_getD]
theorem my (s:ByteArray) (i j:Nat):Utf8.decode (s.extract i s.size) j=Utf8.decode s (i+j):=by (have D:(s.extract i s.size).size=s.size-i:=by rw [ByteArray.size_extract];omega);rw [dv,dv,aY,aY,aY,aY,D];(have K:(j+1<s.size-i)=(i+j+1<s.size):=by rw [eq_iff_iff];omega);(have J:(j+2<s.size-i)=(i+j+2<s.size):=by rw [eq_iff_iff];omega);(have I:(j+3<s.size-i)=(i+j+3<s.size):=by rw [eq_iff_iff];omega);simp only [K,J,I,Nat.add_assoc]
def dp (l:List UInt8):Bool:=l.all fun b=>decide (0<b.toNat)&&decide (b.toNat<128)
theorem mz {t:ByteArray} (h:dp t.data.toList=true) (j:Nat) (D:j<t.size):0<af t j∧af t j<128:=by have I:=List.all_eq_true.1 h _ (List.getElem_mem (show j<t.data.toList.length from D));rw [Bool.and_eq_true,decide_eq_true_eq,decide_eq_true_eq] at I;unfold af;rw [List.getD_eq_getElem?_getD,List.getElem?_eq_getElem (show j<t.data.toList.length from D)];exact I
def br:List UInt8→Bool→Nat→Option Nat
 | [],_,_=>none
 | c::r,true,k=>if c.toNat=10 then none else br r false (k+1)
 | c::r,false,k=>
  if c.toNat=92 then br r true (k+1)
  else if c.toNat=34 then some k
  else if c.toNat=10 then none
  else br r false (k+1)
def bC (c:Nat):Option Nat:=
 if 48≤c∧c≤57 then some (c-48) else if 97≤c∧c≤102 then some (c-87) else if 65≤c∧c≤70 then some (c-55) else none
def bT (m:Nat):List Nat:=if m=0 then [] else if m<10 then [m] else [m % 10,m / 10]
def aT (f:Nat):List Nat→Nat→List Nat
 | [],m=>bT m
 | x::r,m=>(x * f+m) % 10::aT f r ((x * f+m) / 10)
def bJ (radix:Nat):List UInt8→Nat→Option Nat
 | [],v=>some v
 | c::r,v=>match bC c.toNat with
   | none=>none
   | some d=>if d<radix then bJ radix r (v * radix+d) else none
def aC (s:List UInt8) (n radix:Nat):Option Nat:=if n≤s.length then bJ radix (s.take n) 0 else none
def bm (c:Nat):Option Nat:=
 if c=97 then some 7 else if c=98 then some 8 else if c=102 then some 12 else if c=110 then some 10 else if c=114 then some 13
 else if c=116 then some 9 else if c=118 then some 11 else if c=92 then some 92 else if c=34 then some 34 else none
def dc:List UInt8→Option (List UInt8 × Nat)
 | []=>none
 | c::r=>
  match bm c.toNat with
  | some v=>some ([UInt8.ofNat v],1)
  | none=>
   if c.toNat=120 then (aC r 2 16).map fun v=>([UInt8.ofNat v],3)
   else if c.toNat=117 then (aC r 4 16).bind fun v=>if Utf8.valid (v:Int)=true then some ((Utf8.encode (v:Int)).data.toList,5) else none
   else if c.toNat=85 then (aC r 8 16).bind fun v=>if Utf8.valid (v:Int)=true then some ((Utf8.encode (v:Int)).data.toList,9) else none
   else (aC (c::r) 3 8).bind fun v=>if v≤255 then some ([UInt8.ofNat v],3) else none
def a8:Nat→List UInt8→Option (List UInt8)
 | 0,_=>none
 | _+1,[]=>some []
 | g+1,c::r=>
  if c.toNat=92 then (dc r).bind fun p=>(a8 g (r.drop p.2)).map fun t=>p.1++t
  else if c.toNat=34∨c.toNat=10 then none
  else (a8 g r).map fun t=>c::t
def fH (s:ByteArray):Option ByteArray:=
 if s.size≤65536∧2≤s.size∧dp s.data.toList=true∧af s 0=34∧af s (s.size-1)=34 then (a8 (s.size+1) (s.data.toList.extract 1 (s.size-1))).map fun l=>⟨l.toArray⟩
 else none
structure aV where
 kind:Int
 text:ByteArray
 pos:Int
structure Cx where
 toks:List aV
 fin:Int
structure St where
 at_:Nat
 head:Bool
 part:Int
inductive nN (α:Type) where
 | ok (a:α) (s:St)
 | out
def R (α:Type):=Cx→St→nN α
def nN.bind {α β:Type} (r:nN α) (f:α→St→nN β):nN β:=
 match r with
 | .ok a s=>f a s
 | .out=>.out
@[simp] theorem nN.bind_ok {α β:Type} (a:α) (s:St) (f:α→St→nN β):(nN.ok a s).bind f=f a s:=rfl
@[simp] theorem nN.bind_out {α β:Type} (f:α→St→nN β):(nN.out:nN α).bind f=.out:=rfl
def bh (c:Cx) (i:Nat):aV:=
 match c.toks[i]? with
 | some t=>t
 | none=>⟨0,⟨#[]⟩,c.fin⟩
def wh (t:aV) (x:ByteArray):Bool:=(t.kind==2||t.kind==6)&&decide (t.text=x)
def nO (c:Cx) (s:St) (x:ByteArray):Bool:=wh (bh c s.at_) x
def dH (s:St):St := { s with at_:=s.at_+1 }
def th (c:Cx) (s:St):Int:=(bh c s.at_).pos
def ui (x:ByteArray):R Unit:=fun c s=>if nO c s x then .ok () (dH s) else .out
def oR:R ByteArray:=fun c s=>if (bh c s.at_).kind=1 then .ok (bh c s.at_).text (dH s) else .out
def eX (c:Cx) (s:St):Bool:=nO c s (⟨#[59]⟩:BA)||nO c s (⟨#[10]⟩:BA)
def oS (c:Cx) (s:St):St:=if eX c s then dH s else s
structure wn where
 g:Nat
 typ:R Nd
 expr:R Nd
 unary:R Nd
 stmt:R Nd
 ifS:R Nd
section
variable (F:wn)
end
def iC (c:UInt8):Bool:=c==95||((decide (97≤c)&&decide (c≤122))||(decide (65≤c)&&decide (c≤90)))
def bx (c:UInt8):Bool:=decide (48≤c)&&decide (c≤57)
def rB:List ByteArray:=[(⟨#[98,114,101,97,107]⟩:BA),(⟨#[99,111,110,116,105,110,117,101]⟩:BA),(⟨#[101,108,115,101]⟩:BA),(⟨#[102,111,114]⟩:BA),(⟨#[102,117,110,99]⟩:BA),(⟨#[105,102]⟩:BA),(⟨#[105,109,112,111,114,116]⟩:BA),(⟨#[105,110,116,101,114,102,97,99,101]⟩:BA),(⟨#[112,97,99,107,97,103,101]⟩:BA),(⟨#[114,97,110,103,101]⟩:BA),(⟨#[114,101,116,117,114,110]⟩:BA),(⟨#[115,116,114,117,99,116]⟩:BA),(⟨#[116,121,112,101]⟩:BA),(⟨#[118,97,114]⟩:BA)]
def rC:List ByteArray:=[(⟨#[99,97,115,101]⟩:BA),(⟨#[99,104,97,110]⟩:BA),(⟨#[99,111,110,115,116]⟩:BA),(⟨#[100,101,102,97,117,108,116]⟩:BA),(⟨#[100,101,102,101,114]⟩:BA),(⟨#[102,97,108,108,116,104,114,111,117,103,104]⟩:BA),(⟨#[103,111]⟩:BA),(⟨#[103,111,116,111]⟩:BA),(⟨#[109,97,112]⟩:BA),(⟨#[115,101,108,101,99,116]⟩:BA),(⟨#[115,119,105,116,99,104]⟩:BA)]
def aF (s:ByteArray):Int:=if rB.any (fun x=>decide (s=x)) then 1 else if rC.any (fun x=>decide (s=x)) then 2 else 0
def cP:List UInt8→Bool
 | []=>true
 | c::r=>iC c&&r.all fun c=>iC c||bx c
def eL (s:ByteArray):Bool:=cP s.data.toList&&(decide (s≠(⟨#[]⟩:BA))&&decide (aF s=0))
def ap (s:ByteArray):Bool:=decide (s.size≤100)&&eL s
def bX (s:ByteArray):Bool:=ap s&&decide (s≠(⟨#[95]⟩:BA))
def cG (s:ByteArray):Bool:=s.data.toList.all bx&&(decide (s=(⟨#[48]⟩:BA))||(decide (s≠(⟨#[]⟩:BA))&&(decide (s.size≤200)&&decide (s.data.toList.head? ≠ some 48))))
def al (n:Nd):Bool:=decide (n.kind=0)&&(decide (n.text=(⟨#[]⟩:BA))&&decide (n.kids.length=0))
def cU:List (Nd→Bool)→List Nd→Bool
 | [],[]=>true
 | p::ps,n::ns=>p n&&cU ps ns
 | _,_=>false
def bY (k:Int) (l:List (Nd→Bool)) (n:Nd):Bool:=decide (n.kind=k)&&(decide (n.text=(⟨#[]⟩:BA))&&cU l n.kids)
def ag (so:ByteArray→Bool) (n:Nd):Nd:=if so n.text then .mk n.kind (⟨#[]⟩:BA) n.kids n.pos else .mk 37 (⟨#[]⟩:BA) [] 0
def fJ (so:Nd→Bool) (n:Nd):Bool:=decide (n.kind=6)&&(decide (n.text=(⟨#[]⟩:BA))&&n.kids.all so)
def cn (a b:Nd→Bool) (n:Nd):Bool:=a n||b n
structure bZ where
 typ:Nd→Bool
 expr:Nd→Bool
 block:Nd→Bool
 stmt:Nd→Bool
 ifS:Nd→Bool
section
variable (F:bZ)
def iL (so:ByteArray→Bool) (p:Nd):Bool:=bY 8 [F.typ] (ag so p)
def rD (so:ByteArray→Bool) (n:Nd):Bool:=bY 12 [fJ (iL F so),cn al F.typ] n
def ep (n:Nd):Bool:=rD F ap n
def f7 (s:ByteArray):Bool:=decide (s=(⟨#[]⟩:BA))
def nR (n:Nd):Bool:=
 if n.kind=10 then ap n.text&&n.kids.all F.typ
 else if n.kind=11 then bY 11 [F.typ] n
 else if n.kind=12 then rD F f7 n
 else false
def fh (s:ByteArray):Bool:=decide (s=(⟨#[]⟩:BA))||decide (s=(⟨#[126]⟩:BA))
def lC (t:Nd):Bool:=bY 15 [F.typ] (ag fh t)
def cV (n:Nd):Bool:=decide (n.kind=14)&&(decide (n.text=(⟨#[]⟩:BA))&&(decide (0<n.kids.length)&&n.kids.all (lC F)))
def f8 (f:Nd):Bool:=bY 9 [F.typ] (ag ap f)
def dl (n:Nd):Bool:=decide (n.kind=13)&&(decide (n.text=(⟨#[]⟩:BA))&&n.kids.all (f8 F))
def dO (c:Nd):Bool:=decide (c.kind=10)&&F.typ c
def iD (p:Nd):Bool:=bY 7 [cn (dO F) (cV F)] (ag ap p)
def cw (n:Nd):Bool:=fJ (iD F) n
def pi (n:Nd):Bool:=bY 5 [cn al F.typ,cn al F.expr] (ag ap n)&&(!(al (n.kids.getD 0 nE)) || !(al (n.kids.getD 1 nE)))
def eq (n:Nd):Bool:=
 if n.kind=2 then bY 2 [cw F,ep F,F.block] (ag ap n)
 else if n.kind=3 then bY 3 [cw F,cn (cn F.typ (dl F)) (cV F)] (ag ap n)
 else if n.kind=4 then bY 4 [cw F,F.typ] (ag ap n)
 else pi F n
def fK:List UInt8:=((⟨#[43,32,45,32,42,32,47,32,37,32,61,61,32,33,61,32,60,32,60,61,32,62,32,62,61,32,38,38,32,124,124,32]⟩:BA).data.toList)
def dP (s:ByteArray):Bool:=decide (s≠(⟨#[]⟩:BA))&&(!(Lib.contains s.data.toList [32])&&Lib.contains (32::fK) (32::(s.data.toList++[32])))
def fi (s:ByteArray):Bool:=decide (s=(⟨#[45]⟩:BA))||decide (s=(⟨#[33]⟩:BA))
def cW (s:ByteArray):Bool:=decide (s.size≤1000)
def lD (k:Nd):Bool:=F.expr k||(decide (k.kind≠10)&&F.typ k)
def dm (n:Nd):Bool:=
 if n.kind=16 then bY 16 [] (ag cG n)
 else if n.kind=17 then bY 17 [] (ag cW n)
 else if n.kind=18 then bY 18 [] (ag ap n)
 else if n.kind=19 then bY 19 [F.expr] (ag fi n)
 else if n.kind=20 then bY 20 [F.expr,F.expr] (ag dP n)
 else if n.kind=21 then decide (n.text=(⟨#[]⟩:BA))&&(decide (0<n.kids.length)&&n.kids.all F.expr)
 else if n.kind=22 then decide (n.text=(⟨#[]⟩:BA))&&(decide (1<n.kids.length)&&(F.expr (n.kids.getD 0 nE)&&(n.kids.drop 1).all (lD F)))
 else if n.kind=23 then bY 23 [F.expr] (ag ap n)
 else if n.kind=24 then decide (n.text=(⟨#[]⟩:BA))&&(decide (0<n.kids.length)&&(decide ((n.kids.getD 0 nE).kind≠12)&&(F.typ (n.kids.getD 0 nE)&&(n.kids.drop 1).all F.expr)))
 else bY 25 [ep F,F.block] n
def iz (s:ByteArray):List UInt8 × List UInt8 × Bool:=Lib.cut s.data.toList [44]
def dQ (s:ByteArray):Bool:=
 decide (s=(⟨#[]⟩:BA))||(((iz s).2.2&&(ap ⟨(iz s).1.toArray⟩&&bX ⟨(iz s).2.1.toArray⟩))||(!(iz s).2.2&&bX ⟨(iz s).1.toArray⟩))
def iM (s:ByteArray):Bool:=decide (s=(⟨#[43,43]⟩:BA))||decide (s=(⟨#[45,45]⟩:BA))
def fL (n:Nd):Bool:=bY 28 [F.expr] (ag iM n)
def fM (n:Nd):Bool:=bY 27 [F.expr,F.expr] n
def lE (x:Nd):Bool:=decide (x.kind=21)&&F.expr x
def fN (n:Nd):Bool:=bY 29 [lE F] n
def dR (n:Nd):Bool:=bY 26 [F.expr] (ag bX n)
def f9 (n:Nd):Bool:=decide (n.kind=36)&&(decide (n.text=(⟨#[]⟩:BA))&&n.kids.all F.stmt)
def uO (n:Nd):Bool:=bY 30 [F.expr,F.block,cn (cn al F.block) F.ifS] n
def cX (n:Nd):Bool:=
 if n.kind=5 then pi F n
 else if n.kind=26 then dR F n
 else if n.kind=27 then fM F n
 else if n.kind=28 then fL F n
 else if n.kind=29 then fN F n
 else if n.kind=30 then uO F n
 else if n.kind=31 then bY 31 [cn (cn al (dR F)) (cn (fM F) (fL F)),cn al F.expr,cn (cn al (fM F)) (cn (fL F) (fN F)),F.block] n
 else if n.kind=32 then bY 32 [F.expr,F.block] (ag dQ n)
 else if n.kind=33 then bY 33 [cn al F.expr] n
 else if n.kind=34∨n.kind=35 then bY n.kind [] n
 else f9 F n
def lF (n:Nd):Bool:=decide (n.kind=1)&&(ap n.text&&n.kids.all (eq F))
end
def lc:Nat→bZ
 | 0=>⟨fun _=>false,fun _=>false,fun _=>false,fun _=>false,fun _=>false⟩
 | g+1=>⟨nR (lc g),dm (lc g),f9 (lc g),cX (lc g),uO (lc g)⟩
def cQ:Nat→Nd→Prop
 | 0,_=>False
 | g+1,n=>(n.kids.length≤1000000000∧n.text.size≤1000000000)∧∀ k∈n.kids,cQ g k
theorem cQ.succ:∀ {g:Nat} {n:Nd},cQ g n→cQ (g+1) n
 | 0,_,h=>h.elim
 | _+1,_,h=>⟨h.1,fun k hk=>cQ.succ (h.2 k hk)⟩
theorem cQ.kid {g:Nat} {n k:Nd} (h:cQ (g+1) n) (D:k∈n.kids):cQ g k:=h.2 k D
theorem cQ.len {g:Nat} {n:Nd} (h:cQ g n):n.kids.length≤1000000000:=by
 cases g with
 | zero=>exact h.elim
 | succ g=>exact h.1.1
theorem cQ.txt {g:Nat} {n:Nd} (h:cQ g n):n.text.size≤1000000000:=by
 cases g with
 | zero=>exact h.elim
 | succ g=>exact h.1.2
theorem cQ.named {g:Nat} {n:Nd} {so:ByteArray→Bool} (h:cQ g n):cQ g (ag so n):=by
 cases g with
 | zero=>exact h.elim
 | succ g=>
  unfold ag;split
  ·exact ⟨⟨h.1.1,by simp [ByteArray.size]⟩,h.2⟩
  ·exact ⟨⟨by simp,by simp [ByteArray.size]⟩,fun k hk=>by simp at hk⟩
def nS:Nat→Nd→Prop
 | 0,_=>True
 | g+1,n=>(n.kids.length≤1000000000∧n.text.size≤1000000000)∧∀ k∈n.kids,nS g k
def aG:Nat→Nd→List Nat
 | 0,_=>[]
 | l+1,n=>(l+1)::n.kids.flatMap (aG l)
def t8 (l:Nat) (n:Nd):Nat:=(aG l n).length
def dS (n:Nd):Nat:=(aG 101 n).foldl (fun d l=>max d (102-l)) 0
theorem eY (l:List Nat):∀ d m,l.foldl (fun d l=>max d (102-l)) d≤m↔d≤m∧∀ x∈l,102-x≤m:=by
 induction l with
 | nil=>intro d m;simp
 | cons x l ih=>
  intro d m;rw [List.foldl_cons,ih,Nat.max_le];constructor
  ·rintro ⟨⟨I,D⟩,J⟩;refine ⟨I,fun y hy=>?_⟩;rcases List.mem_cons.1 hy with rfl | hy
   ·exact D
   ·exact J y hy
  ·rintro ⟨I,D⟩;exact ⟨⟨I,D x List.mem_cons_self⟩,fun y hy=>D y (List.mem_cons_of_mem _ hy)⟩
theorem lG:∀ (g:Nat) (n:Nd),nS g n→(∀ x∈aG (g+1) n,2≤x)→cQ g n
 | 0,n,_,h=>by have:=h 1 (by simp [aG]);omega
 | g + 1,_,D,h=>⟨D.1,fun k I=>lG g k (D.2 k I) fun x J=>h x (by
     rw [aG];exact List.mem_cons_of_mem _ (List.mem_flatMap.2 ⟨k,I,J⟩))⟩
theorem l8 {n:Nd} (D:nS 100 n) (h:dS n≤100):cQ 100 n:=by refine lG 100 n D fun x hx=>?_;have:=((eY _ _ _).1 h).2 x hx;omega
def dy (n:Nd):Bool:=decide (dS n≤100)&&(decide (t8 100 n≤65536)&&lF (lc 100) n)
end
section
open Go.RowKit Go.Lib Go.Proofs
attribute [local go_sem ↓] Go.wp_at_zero Go.wp_at_succ
theorem ab {B:Nat} {a w:World} (h:Below B a w) (n:Nat):Below B a (w.drewN n):=h.trans ⟨rfl,rfl,rfl,Nat.le_refl _,fun _ _=>rfl⟩
def fI (t:aV):List Value:=[.int .i64 t.kind,.string t.text,.int .i64 t.pos]
theorem cT (t:aV):(fI t).length=3:=rfl
structure de where
 R:Nat
 A:Option Addr
 cap:Nat
 c:Cx
 w0:World
def l4 (E:de) (s:St):Array Value:=#[.slice E.A E.c.toks.length E.cap,.int .i64 s.at_,.int .i64 E.c.fin,.bool s.head,.int .i64 s.part]
def wi (E:de) (w:World):Prop:=∀ b,b<E.R→w.heap[b]? = E.w0.heap[b]?
structure aO (E:de) (w:World) (s:St):Prop where
 blk:ac w E.R 167 (l4 E s)
 toks:a7 (· < E.R) w 3 E.A E.c.toks.length (E.c.toks.flatMap fI)
 le:s.at_≤E.c.toks.length
 most:E.c.toks.length≤1000000
 fits:E.c.toks.length≤E.cap
 old:wi E w
section
variable {E:de} {w w':World} {s s':St}
theorem aO.lt (h:aO E w s):E.R<w.heap.size:=h.blk.lt
theorem aO.keep (h:aO E w s) (D:∀ b,b≤E.R→w'.heap[b]? = w.heap[b]?):aO E w' s:=
 ⟨(D _ (Nat.le_refl _)).trans h.blk,h.toks.keep (fun b hb _=>D b (Nat.le_of_lt hb)),h.le,h.most,h.fits,fun b hb=>(D b (Nat.le_of_lt hb)).trans (h.old b hb)⟩
theorem aO.below (h:aO E w s) (hb:Below w.heap.size w w'):aO E w' s:=h.keep fun b hbR=>hb.block b (Nat.lt_of_le_of_lt hbR h.lt)
theorem aO.drew (h:aO E w s):aO E w.drew s:=h.below (Below.refl _ _).drew
theorem aO.drewN (h:aO E w s) (n:Nat):aO E (w.drewN n) s:=h.below (ab (Below.refl _ _) n)
theorem aO.alloc (h:aO E w s) (o:Obj):aO E (w.alloc o) s:=h.below ((Below.refl _ _).alloc (Nat.le_refl _) o)
theorem aO.far (h:aO E w s) {p:Addr} (D:E.R<p.block) (u:Value):aO E (w.setCell p u) s:=
 h.keep fun b hb=>Below.heap_setCell w p u b (by omega)
theorem aO.grown (h:aO E w s) {row:Option Nat} (I:w.grownBy w' row) (D:∀ g,row=some g→E.R<g):aO E w' s:=
 h.keep fun b hb=>I.block b (Nat.lt_of_le_of_lt hb h.lt) (fun e=>by have:=D b e.symm;omega)
theorem aO.toks_keep (h:aO E w s) (D:w.grownBy w' (some E.R)):a7 (· < E.R) w' 3 E.A E.c.toks.length (E.c.toks.flatMap fI):=
 h.toks.keep fun b hb hlt=>D.block b hlt (fun e=>by injection e with e;omega)
theorem aO.setAt (h:aO E w s) (n:Nat) (D:n≤E.c.toks.length):aO E (w.setCell ⟨E.R,1,none⟩ (.int .i64 (n:Int))) { s with at_:=n } :=
 ⟨by simpa [l4] using h.blk.set_ 1 (.int .i64 (n:Int)),h.toks_keep (da _ _ _ _),D,h.most,h.fits,fun k hk=>(Below.heap_setCell w _ _ k (by show k≠E.R;omega)).trans (h.old k hk)⟩
theorem aO.cells (h:aO E w s):w.cell? ⟨E.R,0,none⟩=some (.slice E.A E.c.toks.length E.cap)∧w.cell? ⟨E.R,1,none⟩=some (.int .i64 s.at_)∧w.cell? ⟨E.R,2,none⟩=some (.int .i64 E.c.fin) ∧
  w.cell? ⟨E.R,3,none⟩=some (.bool s.head)∧w.cell? ⟨E.R,4,none⟩=some (.int .i64 s.part)∧(∀ i,w.frozen? ⟨E.R,i,none⟩=false):=by have c0:=h.blk.cell 0;have c1:=h.blk.cell 1;have c2:=h.blk.cell 2;have c3:=h.blk.cell 3;have c4:=h.blk.cell 4;simp [l4] at c0 c1 c2 c3 c4;exact ⟨c0,c1,c2,c3,c4,h.blk.frozen⟩
theorem aO.tok (h:aO E w s) (i:Nat) (D:i<E.c.toks.length):∃ b off,E.A=some ⟨b,off,none⟩∧b<E.R∧w.cell? ⟨b,off+i * 3,none⟩=some (.int .i64 (bh E.c i).kind) ∧
  w.cell? ⟨b,off+i * 3+1,none⟩=some (.string (bh E.c i).text)∧w.cell? ⟨b,off+i * 3+2,none⟩=some (.int .i64 (bh E.c i).pos):=by
 obtain ⟨b,off,e,hb,I⟩:=h.toks.2 (by omega);(have J:bh E.c i=E.c.toks[i]:=by unfold bh;rw [List.getElem?_eq_getElem D]);rw [J];refine ⟨b,off,e,hb,I (i * 3) _ ?_,I (i * 3+1) _ ?_,I (i * 3+2) _ ?_⟩
 ·have:=dt cT E.c.toks i 0 D (by omega);rw [Nat.add_zero] at this;rw [this];rfl
 ·rw [dt cT E.c.toks i 1 D (by omega)];rfl
 ·rw [dt cT E.c.toks i 2 D (by omega)];rfl
theorem fZ (c:Cx) (i:Nat) (h:c.toks.length≤i):bh c i=⟨0,⟨#[]⟩,c.fin⟩:=by unfold bh;rw [List.getElem?_eq_none h]
end
def mA (t:aV):Value:=.agg #[.int .i64 t.kind,.string t.text,.int .i64 t.pos]
theorem bel {p:Prop} (h:p:=by repeat' (first | with_reducible exact Below.refl _ _ | with_reducible refine Below.alloc ?_ ?_ _ | with_reducible refine Below.setCell ?_ ?_ _ | with_reducible refine Below.drew ?_ | with_reducible refine ab ?_ _ | (simp <;> omega) | omega)):p:=h
theorem fd {p:Prop} (h:p:=by repeat' (first | with_reducible assumption | with_reducible exact Below.refl _ _ | with_reducible refine Below.alloc ?_ ?_ _ | with_reducible refine Below.setCell ?_ ?_ _ | with_reducible refine Below.drew ?_ | with_reducible refine ab ?_ _ | (simp <;> omega) | omega)):p:=h
theorem iI (E:de) (s:St) (w:World) (h:aO E w s):Calls Tryz.prog 98 #[.pointer (some ⟨E.R,0,none⟩)] w fun e w'=>e=.returned (mA (bh E.c s.at_))∧Below w.heap.size w w':=by
 obtain ⟨c0,c1,c2,_,_,_⟩:=h.cells;have K:=h.lt;have Q:=Nat.ne_of_lt K;have J:=h.most;by_cases D:s.at_=E.c.toks.length
 ·have M:=fZ E.c s.at_ (by omega);rw [M];rw [D] at c1;clear M D h;(go_enter Tryz.func98,Tryz.ntmps98);(go_wp2_with fail);go_quiet (fail);(go_wp2_with fail);refine bodyPost_ret (v:=mA ⟨0,⟨#[]⟩,E.c.fin⟩) (by simp [results,mA,Tryz.results98,go_sem]) rfl ⟨rfl,?_⟩;exact bel
 ·(have I:s.at_<E.c.toks.length:=by have:=h.le;omega);obtain ⟨b,off,eA,hb,j,U,S⟩:=h.tok s.at_ I;rw [eA] at c0;(have q:((s.at_:Int)==(E.c.toks.length:Int))=false:=by simp;omega);(have o:(0:Int)≤(s.at_:Int):=by omega);(have k:(s.at_:Int)<(E.c.toks.length:Int):=by omega);(have O:b<w.heap.size:=by omega);(have N:b≠w.heap.size:=by omega);clear D h eA;(go_enter Tryz.func98,Tryz.ntmps98);(go_wp2_with fail);go_quiet (fail);(go_wp2_with fail);go_region;(go_wp2_with fail);refine bodyPost_ret (v:=mA (bh E.c s.at_)) (by simp [results,mA,Tryz.results98,go_sem]) rfl ⟨rfl,?_⟩;exact bel
theorem toList_inj {a b:ByteArray} : a.toList=b.toList↔a=b:=by
 constructor
 ·intro h;rw [ByteArray.toList_eq,ByteArray.toList_eq] at h;cases a;cases b;congr;exact Array.ext' h
 ·rintro rfl;rfl
theorem dM (a b:ByteArray):(a.toList==b.toList)=decide (a=b):=by rw [Bool.eq_iff_iff];simp only [beq_iff_eq,decide_eq_true_eq];exact toList_inj
theorem ai (f:ByteArray):f.toList.isEmpty=decide (f=⟨#[]⟩):=by have h:=dM f ⟨#[]⟩;rw [←h];(have e:(⟨#[]⟩:BA).toList=[]:=by rw [ByteArray.toList_eq]);rw [e];cases f.toList <;> rfl
section
variable (a b c d:Value) (w:World)
theorem bU:(Instr.field 116 (.agg #[a,b,c]) 0).run Tryz.prog w=.ok a w:=by kernel_rfl
theorem bV:(Instr.field 116 (.agg #[a,b,c]) 1).run Tryz.prog w=.ok b w:=by kernel_rfl
theorem bW:(Instr.field 116 (.agg #[a,b,c]) 2).run Tryz.prog w=.ok c w:=by kernel_rfl
theorem dg:(Instr.field 41 (.agg #[a,b,c,d]) 0).run Tryz.prog w=.ok a w:=by kernel_rfl
theorem dh:(Instr.field 41 (.agg #[a,b,c,d]) 1).run Tryz.prog w=.ok b w:=by kernel_rfl
theorem di:(Instr.field 41 (.agg #[a,b,c,d]) 2).run Tryz.prog w=.ok c w:=by kernel_rfl
theorem dk:(Instr.field 41 (.agg #[a,b,c,d]) 3).run Tryz.prog w=.ok d w:=by kernel_rfl
end
attribute [local go_sem] bU bV bW dg dh di dk
theorem nP (E:de) (s:St) (x:ByteArray) (w:World) (h:aO E w s):Calls Tryz.prog 103 #[.pointer (some ⟨E.R,0,none⟩),.string x] w fun e w'=>e=.returned (.bool (nO E.c s x))∧Below w.heap.size w w':=by have J:=hid h;(have D:nO E.c s x=(((bh E.c s.at_).kind==2||(bh E.c s.at_).kind==6)&&((bh E.c s.at_).text.toList==x.toList)):=by unfold nO wh;rw [dM]);rw [D];have I:=hid (iI E s w h);clear D h J;generalize bh E.c s.at_=t at *;obtain ⟨tk,tt,tp⟩:=t;unfold mA at I;simp only at *;cases O:(tk==2) <;> cases N:(tk==6) <;> cases M:(tt.toList==x.toList);all_goals (go_enter Tryz.func103,Tryz.ntmps103);(go_wp2_with fail);refine I.out.mono ?_;rintro e w' ⟨rfl,hb⟩;have K:=hid hb;clear hb;(go_wp2_with fail);go_ret;have hb:=K.out;exact ⟨rfl,(((hb.alloc hb.size _)))⟩
structure dw (E:de) (s:St) (w w':World):Prop where
 rd:aO E w' s
 bel:Below w.heap.size w w'
theorem dw.refl {E:de} {s:St} {w:World} (h:aO E w s):dw E s w w:=⟨h,Below.refl _ _⟩
theorem dw.step {E:de} {s:St} {w w1 w2:World} (h:dw E s w w1) (hb:Below w1.heap.size w1 w2):dw E s w w2:=⟨h.rd.below hb,ah h.bel hb⟩
theorem dw.alloc {E:de} {s:St} {w w1:World} (h:dw E s w w1) (o:Obj):dw E s w (w1.alloc o):=h.step ((Below.refl _ _).alloc (Nat.le_refl _) o)
theorem dw.drew {E:de} {s:St} {w w1:World} (h:dw E s w w1):dw E s w w1.drew:=h.step (Below.refl _ _).drew
structure aD (E:de) (s:St) (w w':World):Prop where
 rd:aO E w' s
 gr:w.grownBy w' (some E.R)
theorem dw.moved {E:de} {s:St} {w w':World} (h:dw E s w w'):aD E s w w':=⟨h.rd,du _ h.bel⟩
theorem aD.refl {E:de} {s:St} {w:World} (h:aO E w s):aD E s w w:=⟨h,World.grownBy.refl w _⟩
theorem aD.setAt {E:de} {s:St} {w w':World} (h:aD E s w w') (n:Nat) (D:n≤E.c.toks.length):aD E { s with at_:=n } w (w'.setCell ⟨E.R,1,none⟩ (.int .i64 (n:Int))):=
 ⟨h.rd.setAt n D,h.gr.trans (da _ _ _ _)⟩
theorem aD.trans {E:de} {s s':St} {w w1 w2:World} (h:aD E s w w1) (h':aD E s' w1 w2):aD E s' w w2:=⟨h'.rd,h.gr.trans h'.gr⟩
theorem aD.step {E:de} {s:St} {w w1 w2:World} (h:aD E s w w1) (hb:Below w1.heap.size w1 w2):aD E s w w2:=h.trans ⟨h.rd.below hb,du _ hb⟩
theorem aD.alloc {E:de} {s:St} {w w1:World} (h:aD E s w w1) (o:Obj):aD E s w (w1.alloc o):=h.step ((Below.refl _ _).alloc (Nat.le_refl _) o)
theorem aD.drew {E:de} {s:St} {w w1:World} (h:aD E s w w1):aD E s w w1.drew:=h.step (Below.refl _ _).drew
theorem aD.drewN {E:de} {s:St} {w w1:World} (h:aD E s w w1) (n:Nat):aD E s w (w1.drewN n):=h.step (ab (Below.refl _ _) n)
theorem dw.drewN {E:de} {s:St} {w w1:World} (h:dw E s w w1) (n:Nat):dw E s w (w1.drewN n):=h.step (ab (Below.refl _ _) n)
theorem aD.own {E:de} {s:St} {w D:World} (h:aD E s w D) {p:Addr} (I:w.heap.size≤p.block) (J:E.R<p.block) (u:Value):aD E s w (D.setCell p u):=
 ⟨h.rd.far J u,by obtain ⟨b,o,z⟩:=p;exact ⟨h.gr.os,h.gr.tape,h.gr.output,by simpa using h.gr.size,fun k hk hne=>(Below.heap_setCell D ⟨b,o,z⟩ u k (by simp at I ⊢;omega)).trans (h.gr.block k hk hne)⟩⟩
theorem nQ {E:de} {s:St} {w:World} (_h:aO E w s) {x:ByteArray} (D:nO E.c s x=true):s.at_<E.c.toks.length:=by
 rcases Nat.lt_or_ge s.at_ E.c.toks.length with h | h
 ·exact h
 ·unfold nO at D;rw [fZ E.c s.at_ h] at D;simp [wh] at D
theorem ph (E:de) (s:St) (x:ByteArray) (w:World) (h:aO E w s) (D:nO E.c s x=true):Calls Tryz.prog 148 #[.pointer (some ⟨E.R,0,none⟩),.string x] w fun e w'=>e=.returned (.bool true)∧aD E (dH s) w w':=by have M:=nQ h D;have I:=h.most;have N:=hid D;have O:=hid (nP E s x w h);clear D;(go_enter Tryz.func148,Tryz.ntmps148);(go_wp2_with fail);refine O.out.mono ?_;rw [N.out];rintro e w' ⟨rfl,hb⟩;have K:=(dw.refl h).step hb;obtain ⟨c0,c1,c2,c3,c4,J⟩:=K.rd.cells;have Q:=hid J;have f1:=J 1;clear hb J;(go_wp2_with fail);go_ret;exact ⟨rfl,K.moved.setAt (s.at_+1) (by omega)⟩
theorem rq (E:de) (s:St) (x:ByteArray) (w:World) (h:aO E w s) (D:nO E.c s x=true):Calls Tryz.prog 99 #[.pointer (some ⟨E.R,0,none⟩),.string x] w fun e w'=>e=.returned (.tuple #[])∧aD E (dH s) w w':=by have J:=hid (ph E s x w h D);clear D h;(go_enter Tryz.func99,Tryz.ntmps99);(go_wp2_with fail);refine J.out.mono ?_;rintro e w' ⟨rfl,I⟩;(go_wp2_with fail);go_end0;exact ⟨rfl,I⟩
theorem rs (E:de) (s:St) (w:World) (h:aO E w s):Calls Tryz.prog 149 #[.pointer (some ⟨E.R,0,none⟩)] w fun e w'=>e=.returned (.bool (eX E.c s))∧dw E s w w':=by have D:=dw.refl h;have I:eX E.c s=(nO E.c s (⟨#[59]⟩:BA)||nO E.c s (⟨#[10]⟩:BA)):=rfl;have K:=hid (fun w' (h:aO E w' s)=>nP E s (⟨#[59]⟩:BA) w' h);have J:=hid (fun w' (h:aO E w' s)=>nP E s (⟨#[10]⟩:BA) w' h);rw [I];clear I;generalize nO E.c s (⟨#[59]⟩:BA)=a at *;generalize nO E.c s (⟨#[10]⟩:BA)=b at *;cases a <;> cases b;all_goals (go_enter Tryz.func149,Tryz.ntmps149);(go_wp2_with fail);refine (K.out _ h).mono ?_;rintro e w' ⟨rfl,hb⟩;replace D:=D.step hb;clear hb;go_wp2_with (go_at_call 103;refine (J.out _ D.rd).mono ?_;rintro e w' ⟨rfl,hb⟩;replace D:=D.step hb;clear hb);go_ret;exact ⟨rfl,D⟩
theorem l5 (E:de) (s:St) (w:World) (h:aO E w s):Calls Tryz.prog 102 #[.pointer (some ⟨E.R,0,none⟩)] w fun e w'=>e=.returned (.bool (eX E.c s))∧aD E (oS E.c s) w w':=by
 have O:=hid (rs E s w h);have K:oS E.c s=if eX E.c s=true then dH s else s:=rfl;have M:eX E.c s=true→s.at_<E.c.toks.length:=fun hb=>by
  unfold eX at hb;rcases Bool.or_eq_true_iff.1 hb with J | J
  ·exact nQ h J
  ·exact nQ h J
 have I:=h.most;rw [K];clear K;generalize eX E.c s=a at *;cases a
 ·(go_enter Tryz.func102,Tryz.ntmps102);(go_wp2_with fail);refine O.out.mono ?_;rintro e w' ⟨rfl,D⟩;(go_wp2_with fail);go_ret;exact ⟨rfl,D.moved⟩
 ·have Q:=M rfl;clear M;(go_enter Tryz.func102,Tryz.ntmps102);(go_wp2_with fail);refine O.out.mono ?_;rintro e w' ⟨rfl,D⟩;obtain ⟨c0,c1,c2,c3,c4,N⟩:=D.rd.cells;have f1:=N 1;clear N;(go_wp2_with fail);go_ret;exact ⟨rfl,D.moved.setAt (s.at_+1) (by omega)⟩
theorem rt (E:de) (s:St) (D:(bh E.c s.at_).kind=1):s.at_<E.c.toks.length:=by
 rcases Nat.lt_or_ge s.at_ E.c.toks.length with h | h
 ·exact h
 ·rw [fZ E.c s.at_ h] at D;simp at D
theorem ru (E:de) (s:St) (w:World) (h:aO E w s) (M:(bh E.c s.at_).kind=1):Calls Tryz.prog 101 #[.pointer (some ⟨E.R,0,none⟩)] w fun e w'=>e=.returned (.string (bh E.c s.at_).text)∧aD E (dH s) w w':=by have Q:=rt E s M;have J:=h.most;have O:=hid (iI E s w h);generalize bh E.c s.at_=t at *;obtain ⟨tk,tt,tp⟩:=t;unfold mA at O;simp only at *;subst M;(go_enter Tryz.func101,Tryz.ntmps101);(go_wp2_with fail);refine O.out.mono ?_;rintro e w' ⟨rfl,hb⟩;have I:=(dw.refl h).step hb;obtain ⟨c0,c1,c2,c3,c4,N⟩:=I.rd.cells;have f1:=N 1;have D:=I.rd.lt;have K:=Nat.ne_of_lt D;clear N;(go_wp2_with fail);go_ret;exact ⟨rfl,(I.moved.setAt (s.at_+1) (by omega)).alloc _⟩
theorem rv (a k:Int) (t:ByteArray) (v:Value) (w:World) (D:∃ A n c,v=.slice A n c):Calls Tryz.prog 100 #[.int .i64 a,.int .i64 k,.string t,v] w fun e w'=>e=.returned (.agg #[.int .i64 k,.string t,v,.int .i64 a])∧Below w.heap.size w w':=by obtain ⟨A,n,c,rfl⟩:=D;(go_enter Tryz.func100,Tryz.ntmps100);(go_wp2_with fail);refine bodyPost_ret (v:=.agg #[.int .i64 k,.string t,.slice A n c,.int .i64 a]) (by simp [results,Tryz.results100,go_sem]) rfl ⟨rfl,?_⟩;exact bel
def rx (E:de) (w:World) (r:nN Nd) (e:Ending) (w':World):Prop:=
 match r with
 | .ok n s=>(∃ v,e=.returned v∧av (fun b=>w.heap.size≤b) w' v n)∧aD E s w w'
 | .out=>False
def bt (X:Nat→Prop) (w:World) (v:Value) (l:List Nd):Prop:=
 ∃ A cap xs,v=.slice A l.length cap∧l.length≤cap∧a7 X w 4 A l.length xs∧ak X w l xs
def mB (E:de) (k:FuncId) (args:Array Value) (m:R Nd) (w0:World):Prop:=
 ∀ (w:World) (s:St),w0.grownBy w (some E.R)→aO E w s→m E.c s≠.out→Calls Tryz.prog k args w (rx E w (m E.c s))
theorem mB.grown {E:de} {k:FuncId} {args:Array Value} {m:R Nd} {w0 w1:World} (h:mB E k args m w0) (D:w0.grownBy w1 (some E.R)):mB E k args m w1:=
 fun w s hw hr hm=>h w s (D.trans hw) hr hm
structure aI (X:Nat→Prop) (w w':World):Prop where
 size:w.heap.size≤w'.heap.size
 block:∀ b,X b→b<w.heap.size→w'.heap[b]? = w.heap[b]?
section
variable {X:Nat→Prop} {w w' w'':World}
theorem aI.refl (X:Nat→Prop) (w:World):aI X w w:=⟨Nat.le_refl _,fun _ _ _=>rfl⟩
theorem aI.trans (h:aI X w w') (h':aI X w' w''):aI X w w'':=
 ⟨Nat.le_trans h.size h'.size,fun b hb hlt=>(h'.block b hb (Nat.lt_of_lt_of_le hlt h.size)).trans (h.block b hb hlt)⟩
theorem aI.alloc (h:aI X w w') (o:Obj):aI X w (w'.alloc o):=
 h.trans ⟨by rw [World.size_alloc];omega,fun b _ hlt=>Below.heap_alloc w' o b hlt⟩
theorem aI.drew (h:aI X w w'):aI X w w'.drew:=h.trans ⟨Nat.le_refl _,fun _ _ _=>rfl⟩
theorem aI.drewN (h:aI X w w') (n:Nat):aI X w (w'.drewN n):=h.trans ⟨(ab (Below.refl 0 _) n).size,fun b _ hlt=>(ab (Below.refl w'.heap.size w') n).block b hlt⟩
theorem aI.setCell (h:aI X w w') {p:Addr} (D:X p.block→False) (u:Value):aI X w (w'.setCell p u):=
 h.trans ⟨by simp [World.setCell],fun b hb _=>Below.heap_setCell w' p u b (fun e=>D (e▸hb))⟩
theorem av.kept {v:Value} {n:Nd} (h:av X w v n) (D:aI X w w'):av X w' v n:=h.keep D.block
theorem bt.kept {v:Value} {l:List Nd} (h:bt X w v l) (D:aI X w w'):bt X w' v l:=by obtain ⟨A,cap,xs,e,K,J,I⟩:=h;exact ⟨A,cap,xs,e,K,J.keep D.block,I.keep D.block⟩
theorem bt.mono {Y:Nat→Prop} {v:Value} {l:List Nd} (h:bt X w v l) (D:∀ b,X b→b<w.heap.size→Y b):bt Y w v l:=by obtain ⟨A,cap,xs,e,K,J,I⟩:=h;exact ⟨A,cap,xs,e,K,J.mono D (by omega),I.mono D⟩
theorem aJ {g:Nat} {t:TypeId} {a b c d:Value} (h:ac w g t #[a,b,c,d]):w.cell? ⟨g,0,none⟩=some a∧w.cell? ⟨g,1,none⟩=some b∧w.cell? ⟨g,2,none⟩=some c∧w.cell? ⟨g,3,none⟩=some d ∧
  w.frozen? ⟨g,0,none⟩=false∧w.frozen? ⟨g,1,none⟩=false∧w.frozen? ⟨g,2,none⟩=false∧w.frozen? ⟨g,3,none⟩=false:=by have c0:=h.cell 0;have c1:=h.cell 1;have c2:=h.cell 2;have c3:=h.cell 3;simp at c0 c1 c2 c3;exact ⟨c0,c1,c2,c3,h.frozen 0,h.frozen 1,h.frozen 2,h.frozen 3⟩
end
def l6:Array Value:=#[.int .i64 0,.string ⟨#[]⟩,.slice none 0 0,.int .i64 0]
theorem dN {fn:Func} {q:Tmp} (I:fn.results = #[.cell q 41]) (tmps:Array Value) {w:World} {g:Nat} {a b c d:Value} (J:tmps.getD q undef=.pointer (some ⟨g,0,none⟩)) (hb:ac w g 41 #[a,b,c,d]) :
  (results fn tmps).run Tryz.prog w=.ok (.agg #[a,b,c,d]) w:=by obtain ⟨O,N,M,K,_,_,_,_⟩:=aJ hb;unfold results;rw [I];(have D:tmps[q]?.getD undef=.pointer (some ⟨g,0,none⟩):=by simpa using J);simp [D,go_sem,O,N,M,K]
end
section
open Go.RowKit Go.Lib Go.Proofs
def ry (E:de) (m:R Nd) (f:FuncId):Prop:=
 ∀ (w:World) (s:St),aO E w s→m E.c s≠.out→Calls Tryz.prog f #[.pointer (some ⟨E.R,0,none⟩)] w (rx E w (m E.c s))
theorem ry.part {E:de} {m:R Nd} {f:FuncId} (h:ry E m f) (w0:World):mB E f #[.pointer (some ⟨E.R,0,none⟩)] m w0:=fun w s _ hr hm=>h w s hr hm
theorem av.leaf {X:Nat→Prop} {w:World} (kind:Int) (t:ByteArray) (pos:Int):av X w (.agg #[.int .i64 kind,.string t,.slice none 0 0,.int .i64 pos]) (.mk kind t [] pos):=
 ⟨none,0,[],rfl,Nat.le_refl _,⟨rfl,fun h=>absurd h (by simp)⟩,ak.nil⟩
theorem av.of_slice {X:Nat→Prop} {w:World} {v:Value} {l:List Nd} (h:bt X w v l) (kind:Int) (t:ByteArray) (pos:Int):av X w (.agg #[.int .i64 kind,.string t,v,.int .i64 pos]) (.mk kind t l pos):=by obtain ⟨A,cap,xs,rfl,J,I,D⟩:=h;exact ⟨A,cap,xs,rfl,J,I,D⟩
theorem cell_kept {w w':World} (hb:Below w.heap.size w w') {a:Addr} {v:Value} (D:w.cell? a=some v):w'.cell? a=some v:=(hb.cell (World.block_lt_of_cell? w a D)).trans D
section
variable {a0 a1 a2 a3 a4:Addr} {v0 v1 v2 v3 v4:Value} {w w':World}
end
def fe (w:World) (g:Nat) (a b c d:Value):World:=(((w.setCell ⟨g,0,none⟩ a).setCell ⟨g,1,none⟩ b).setCell ⟨g,2,none⟩ c).setCell ⟨g,3,none⟩ d
theorem eo {w:World} {g:Nat} {z0 z1 z2 z3:Value} (h:ac w g 41 #[z0,z1,z2,z3]) (a b c d:Value):ac (fe w g a b c d) g 41 #[a,b,c,d]:=by unfold fe;have:=(((h.set_ 0 a).set_ 1 b).set_ 2 c).set_ 3 d;simpa using this
theorem iJ {E:de} {s:St} {w wk:World} {g:Nat} (h:aD E s w wk) (D:w.heap.size≤g) (I:E.R<g) (a b c d:Value):aD E s w (fe wk g a b c d):=
 (((h.own (p:=⟨g,0,none⟩) D I a).own (p:=⟨g,1,none⟩) D I b).own (p:=⟨g,2,none⟩) D I c).own (p:=⟨g,3,none⟩) D I d
theorem fg {X:Nat→Prop} {wk:World} {g:Nat} (D:∀ b,X b→b≠g) (a b c d:Value):aI X wk (fe wk g a b c d):=
 ((((aI.refl X wk).setCell (p:=⟨g,0,none⟩) (fun h=>D g h rfl) a).setCell (p:=⟨g,1,none⟩) (fun h=>D g h rfl) b).setCell (p:=⟨g,2,none⟩) (fun h=>D g h rfl) c).setCell (p:=⟨g,3,none⟩) (fun h=>D g h rfl) d
theorem rz {E:de} {w wk:World} {res:nN Nd} {n:Nd} {s:St} {X:Nat→Prop} {a0 a1 a2 a3 z0 z1 z2 z3:Value} {g q:Nat} {fn:Func} {a:Act} (M:res=.ok n s)
  (J:av X wk (.agg #[a0,a1,a2,a3]) n) (N:aD E s w wk) (hb:ac wk g 41 #[z0,z1,z2,z3]) (O:w.heap.size≤g) (Q:E.R<g) (I:∀ b,X b→w.heap.size≤b∧b≠g)
  (D:fn.results = #[.cell q 41]) (K:a.tmps.getD q undef=.pointer (some ⟨g,0,none⟩)) (hd:a.defers=[]) :
  bodyPost Tryz.prog fn (rx E w res) .ret a (fe wk g a0 a1 a2 a3):=by refine bodyPost_ret (dN D _ K (eo hb a0 a1 a2 a3)) hd ?_;rw [M];exact ⟨⟨_,rfl,(J.kept (fg (fun b hb=>(I b hb).2) _ _ _ _)).mono fun b hb _=>(I b hb).1⟩,iJ N O Q _ _ _ _⟩
structure dx (B:Nat) (Z:Nat→Prop) (w:World) (v:Value) (l:List Nd):Prop where
 out:∃ xs,w.ownsRow B 41 4 v l.length xs∧ak (fun b=>B≤b∧some b≠v.ownBlock∧¬ Z b) w l xs
 far:∀ g,v.ownBlock=some g→¬ Z g
section
variable {B:Nat} {Z:Nat→Prop} {w w':World} {v:Value} {l:List Nd}
theorem dx.nil (B:Nat) (Z:Nat→Prop) (w:World):dx B Z w (.slice none 0 0) []:=⟨⟨[],World.ownsRow_nil _ _ _ _,ak.nil⟩,fun g h=>by simp [Value.ownBlock] at h⟩
theorem dx.keep (h:dx B Z w v l) (J:∀ b,B≤b→¬ Z b→b<w.heap.size→w'.heap[b]? = w.heap[b]?):dx B Z w' v l:=by
 obtain ⟨xs,M,N⟩:=h.out;refine ⟨⟨xs,⟨M.1,?_⟩,N.keep fun b hb D=>J b hb.1 hb.2.2 D⟩,h.far⟩;rcases M.2 with O | ⟨g,cap,cur,e,K,I,r⟩
 ·exact .inl O
 ·refine .inr ⟨g,cap,cur,e,K,?_,r⟩;have D:g<w.heap.size:=by
   rcases Nat.lt_or_ge g w.heap.size with D | hge
   ·exact D
   ·rw [Array.getElem?_eq_none hge] at I;cases I
  exact (J g K (h.far g (by rw [e];rfl)) D).trans I
theorem dx.kept (h:dx B Z w v l) (D:aI (fun b=>B≤b∧¬ Z b) w w'):dx B Z w' v l:=h.keep fun b J I h3=>D.block b ⟨J,I⟩ h3
theorem dx.grown {R:Nat} (h:dx B Z w v l) (D:w.grownBy w' (some R)) (I:R<B):dx B Z w' v l:=
 h.keep fun b hb _ hlt=>D.block b hlt (fun e=>by injection e;omega)
theorem dx.lt (h:dx B Z w v l):∀ g,v.ownBlock=some g→B≤g∧g<w.heap.size:=by obtain ⟨xs,D,_⟩:=h.out;exact fun g hg=>D.lt g hg
theorem dx.values (h:dx B Z w v l):bt (fun b=>B≤b∧¬ Z b) w v l:=by
 obtain ⟨xs,D,J⟩:=h.out;rcases D.2 with ⟨rfl,S⟩ | ⟨g,cap,cur,rfl,Q,O,I,_,M,K⟩
 ·exact ⟨none,0,xs,by rw [S],by omega,⟨D.1,fun h=>by omega⟩,J.mono fun b hb _=>⟨hb.1,hb.2.2⟩⟩
 ·refine ⟨_,cap,xs,rfl,I,⟨D.1,fun _=>⟨g,0,rfl,⟨Q,h.far g rfl⟩,fun j u hu=>?_⟩⟩,J.mono fun b hb _=>⟨hb.1,hb.2.2⟩⟩;(have N:j<l.length * 4:=by have:=(List.getElem?_eq_some_iff.1 hu).1;rw [D.1] at this;exact this);rw [Nat.zero_add];unfold World.cell?;rw [O];simp only [Option.isSome_none,Bool.false_eq_true,if_false];rw [←K,List.getElem?_take_of_lt N] at hu;rw [←hu];simp
theorem dx.form (h:dx B Z w v l):∃ A c,v=.slice A l.length c∧l.length≤c:=by obtain ⟨A,c,xs,e,D,_⟩:=h.values;exact ⟨A,c,e,D⟩
theorem dx.one {K S:Nat} {n:Nd} {a b c d:Value} {D:World} (hb:ac w K 41 #[a,b,c,d]) (J:B≤K) (k:D.heap.size=K) (Q:bj (fun b=>S≤b) D n [a,b,c,d]) (U:B≤S)
  (O:∀ b,S≤b→b<D.heap.size→w.heap[b]? = D.heap[b]?) (M:∀ b,S≤b→b≤K→¬ Z b) (I:S≤K):dx B Z w (.slice (some ⟨K,0,none⟩) 1 1) [n]:=by
 refine ⟨⟨[a,b,c,d],⟨rfl,.inr ⟨K,1,#[a,b,c,d],rfl,J,hb,Nat.le_refl _,by unfold maxLen;omega,rfl,rfl⟩⟩,?_⟩,fun g hg=>?_⟩
 ·have j:=ak.one (Q.mono (Y:=fun b=>S≤b∧b<K) fun b hb hlt=>⟨hb,by omega⟩);have h:=j.keep (w':=w) fun b hb hlt=>O b hb.1 hlt;refine h.mono fun b hb _=>⟨by omega,fun e=>?_,M b hb.1 (by omega)⟩;(have N:b=K:=by simpa [Value.ownBlock] using e);omega
 ·(have N:K=g:=by simpa [Value.ownBlock] using hg);subst N;exact M K I (Nat.le_refl _)
end
end
section
open Go.RowKit Go.Lib Go.Proofs
attribute [local go_sem ↓] Go.wp_at_zero Go.wp_at_succ
theorem ti:(Tryz.prog.info? 116).map (fun i=>(i.zero,i.size,i.bytes))=some (some (.agg #[.int .i64 0,.string ⟨#[]⟩,.int .i64 0]),3,32):=by kernel_rfl
theorem rA (l:List aV):∀ u∈l.flatMap fI,u.oneCell'=true:=by intro u hu;obtain ⟨x,_,D⟩:=List.mem_flatMap.1 hu;unfold fI at D;simp only [List.mem_cons,List.not_mem_nil,or_false] at D;rcases D with rfl | rfl | rfl <;> rfl
def cq (B:Nat) (w:World) (v:Value) (l:List aV):Prop:=w.ownsRow B 116 3 v l.length (l.flatMap fI)
section
variable {B:Nat} {w w':World} {v:Value} {l:List aV}
theorem cq.nil (B:Nat) (w:World):cq B w (.slice none 0 0) []:=World.ownsRow_nil _ _ _ _
theorem cq.keep (h:cq B w v l) (K:∀ b,B≤b→b<w.heap.size→w'.heap[b]? = w.heap[b]?):cq B w' v l:=by
 refine ⟨h.1,?_⟩;rcases h.2 with M | ⟨g,cap,cur,e,J,I,r⟩
 ·exact .inl M
 ·refine .inr ⟨g,cap,cur,e,J,?_,r⟩;have D:g<w.heap.size:=by
   rcases Nat.lt_or_ge g w.heap.size with D | hge
   ·exact D
   ·rw [Array.getElem?_eq_none hge] at I;cases I
  exact (K g J D).trans I
theorem cq.below (h:cq B w v l) (hb:Below w.heap.size w w'):cq B w' v l:=h.keep fun b _ hlt=>hb.block b hlt
theorem cq.lt (h:cq B w v l):∀ g,v.ownBlock=some g→B≤g∧g<w.heap.size:=fun g hg=>World.ownsRow.lt h g hg
theorem cq.form (h:cq B w v l):∃ A c,v=.slice A l.length c∧l.length≤c:=by
 rcases h.2 with ⟨rfl,I⟩ | ⟨g,cap,cur,rfl,_,_,D,_⟩
 ·exact ⟨none,0,by rw [I],by omega⟩
 ·exact ⟨_,cap,rfl,D⟩
end
structure mC (B:Nat) (w1 w2:World) (u v':Value) (l':List aV):Prop where
 own:cq B w2 v' l'
 bel:Below B w1 w2
 keep:∀ b,b<w1.heap.size→u.ownBlock≠some b→w2.heap[b]? = w1.heap[b]?
 at_:v'.ownBlock=u.ownBlock∨∃ g,v'.ownBlock=some g∧w1.heap.size≤g
theorem mD {o:Oper} {a:Act} {K:Act→World→Prop} {Q:Exit→Act→World→Prop} (s x:Operand)
  (z:o.op=.call { callee:=.builtin .append,args:=#[s,x],argTypes:=#[112,112] })
  (B:Nat) (D:World) (u:Value) (l:List aV) (t:aV) (y:a.eval s=u) (S:Nat) (r:a.eval x=.slice (some ⟨S,0,none⟩) 1 1) (hS:D.heap.size=S)
  (j:cq B D u l) (hB:B≤D.heap.size) (hl:l.length≤1000000)
  (h:∀ g c w2,mC B D w2 u (.slice (some ⟨g,0,none⟩) (l.length+1) c) (l++[t])→K (a.put o.dst (.slice (some ⟨g,0,none⟩) (l.length+1) c)) w2) :
  o.wp Tryz.prog a (D.alloc (.cells #[.int .i64 t.kind,.string t.text,.int .i64 t.pos] 116)) K Q:=by
 subst hS;obtain ⟨q,hi,N,M,J⟩:=info_parts ti;refine wp_append_lies _ s x 112 z B 116 q _ 3 32 Tryz.underlying112 hi N M J rfl (by omega) u l.length _ y (World.ownsRow.alloc j _) ⟨D.heap.size,0,none⟩ 1 1 [.int .i64 t.kind,.string t.text,.int .i64 t.pos] r rfl
  (World.news_of_block (cs:=#[.int .i64 t.kind,.string t.text,.int .i64 t.pos]) (heap_alloc_new _ _)) (rA [t]) (by omega) (by unfold maxLen;omega) (by omega) (by rw [World.size_alloc];omega) _ rfl ?_
 intro g c w2 hown1 I O _;(have e:(l++[t]).flatMap fI=l.flatMap fI++[.int .i64 t.kind,.string t.text,.int .i64 t.pos]:=by rw [List.flatMap_append];rfl);have U:∀ b,b<D.heap.size→u.ownBlock≠some b→w2.heap[b]? = D.heap[b]? := fun b hb hu=>
  (I.block b (by rw [World.size_alloc];omega) (fun e=>hu e.symm)).trans (Below.heap_alloc D _ b hb)
 (have hb:Below B D w2:=by have h1:=(Below.refl B D).alloc hB (.cells #[.int .i64 t.kind,.string t.text,.int .i64 t.pos] 116);exact h1.trans ⟨I.os,I.tape,I.output,I.size,fun k U=>I.block k (by rw [World.size_alloc];omega) (fun e=>by have:=(j.lt k e.symm).1;omega)⟩);refine h g c w2 ⟨?_,hb,U,?_⟩
 ·unfold cq;rw [e,List.length_append];exact hown1
 ·rcases O with e | e
  ·exact .inl e.symm
  ·exact .inr ⟨g,rfl,by rw [e,World.size_alloc];omega⟩
theorem iK {ops:Array Oper} {o:Oper} {a:Act} {K:Act→World→Prop} {Q:Exit→Act→World→Prop} {D:Prop} (I:o.guard=none) (s x:Operand)
  (O:o.op=.call { callee:=.builtin .append,args:=#[s,x],argTypes:=#[112,112] })
  (B:Nat) (w1:World) (u:Value) (l:List aV) (t:aV) (N:a.eval s=u) (S:Nat) (J:a.eval x=.slice (some ⟨S,0,none⟩) 1 1) (j:w1.heap.size=S)
  (k:cq B w1 u l) (q:B≤w1.heap.size) (U:l.length≤1000000)
  (h:∀ g c w2,mC B w1 w2 u (.slice (some ⟨g,0,none⟩) (l.length+1) c) (l++[t])→K (a.put o.dst (.slice (some ⟨g,0,none⟩) (l.length+1) c)) w2) :
  if Region.wanted o (yielded ops a.tmps)=true then Oper.wp Tryz.prog o a (w1.alloc (.cells #[.int .i64 t.kind,.string t.text,.int .i64 t.pos] 116)) K Q else D:=by (have M:Region.wanted o (yielded ops a.tmps)=true:=by simp [Region.wanted,I]);rw [if_pos M];exact mD s x O B w1 u l t N S J j k q U h
theorem l7 {ops:Array Oper} {rest:List Oper} {o:Oper} {a:Act} {Q:Exit→Act→World→Prop} (I:o.guard=none) (s x:Operand)
  (M:o.op=.call { callee:=.builtin .append,args:=#[s,x],argTypes:=#[112,112] })
  (B:Nat) (D:World) (u:Value) (l:List aV) (t:aV) (K:a.eval s=u) (S:Nat) (J:a.eval x=.slice (some ⟨S,0,none⟩) 1 1) (O:D.heap.size=S)
  (U:cq B D u l) (j:B≤D.heap.size) (N:l.length≤1000000)
  (h:∀ g c w2,mC B D w2 u (.slice (some ⟨g,0,none⟩) (l.length+1) c) (l++[t])→wpList Tryz.prog ops Q rest (a.put o.dst (.slice (some ⟨g,0,none⟩) (l.length+1) c)) w2) :
  wpList Tryz.prog ops Q (o::rest) a (D.alloc (.cells #[.int .i64 t.kind,.string t.text,.int .i64 t.pos] 116)):=
 wpList_plain I fun _ hK=>mD s x M B D u l t K S J O U j N fun g c w2 h1=>hK _ _ (h g c w2 h1)
class NsC where
 ns:List aV
 few:ns.length≤65536
def eK (s:ByteArray) (i:Nat) (lv nv:Value):Array Value:=#[.string s,.int .i64 (i:Int),lv,nv]
structure nG (w:World) (X:Nat) (s:ByteArray) (i:Nat) (l:List aV) (lv nv:Value) (ns:List aV):Prop where
 blk:ac w X 142 (eK s i lv nv)
 toks:cq (X+1) w lv l
 notes:cq (X+1) w nv ns
 apart:∀ g,lv.ownBlock=some g→nv.ownBlock=some g→False
structure bP [NsC] (w:World) (X:Nat) (s:ByteArray) (i:Nat) (l:List aV):Prop where
 out:∃ lv nv,nG w X s i l lv nv NsC.ns
 le:i≤s.size
 most:s.size≤65536
 few:l.length≤65537
section
variable {w w':World} {X:Nat} {s:ByteArray} {i:Nat} {l:List aV} {lv nv:Value} {ns:List aV}
theorem nG.keep (h:nG w X s i l lv nv ns) (D:∀ b,X≤b→b<w.heap.size→w'.heap[b]? = w.heap[b]?):nG w' X s i l lv nv ns:=
 ⟨(D X (Nat.le_refl _) h.blk.lt).trans h.blk,h.toks.keep fun b hb hlt=>D b (by omega) hlt,h.notes.keep fun b hb hlt=>D b (by omega) hlt,h.apart⟩
theorem nG.below (h:nG w X s i l lv nv ns) (hb:Below w.heap.size w w'):nG w' X s i l lv nv ns:=h.keep fun b _ hlt=>hb.block b hlt
theorem nG.set (h:nG w X s i l lv nv ns) (j:Nat):nG (w.setCell ⟨X,1,none⟩ (.int .i64 (j:Int))) X s j l lv nv ns:=
 ⟨by simpa [eK] using h.blk.set_ 1 (.int .i64 (j:Int)),h.toks.keep fun b hb _=>Below.heap_setCell w ⟨X,1,none⟩ _ b (by show b≠X;omega),
  h.notes.keep fun b hb _=>Below.heap_setCell w ⟨X,1,none⟩ _ b (by show b≠X;omega),h.apart⟩
theorem nG.row (h:nG w X s i l lv nv ns) {D:World} {lv':Value} {l':List aV} (J:mC (X+1) w D lv lv' l'):nG (D.setCell ⟨X,2,none⟩ lv') X s i l' lv' nv ns:=by
 have O:D.heap[X]? = w.heap[X]? := J.bel.block X (by omega);have hb:ac D X 142 (eK s i lv nv):=O.trans h.blk;have Q:cq (X+1) D nv ns:=by
  refine ⟨h.notes.1,?_⟩;rcases h.notes.2 with S | ⟨g,cap,cur,e,N,K,r⟩
  ·exact .inl S
  ·refine .inr ⟨g,cap,cur,e,N,?_,r⟩;(have I:nv.ownBlock=some g:=by rw [e];rfl);exact (J.keep g (h.notes.lt g I).2 (fun U=>h.apart g U I)).trans K
 refine ⟨by simpa [eK] using hb.set_ 2 lv',J.own.keep fun b hb _=>Below.heap_setCell D ⟨X,2,none⟩ _ b (by show b≠X;omega),
  Q.keep fun b hb _=>Below.heap_setCell D ⟨X,2,none⟩ _ b (by show b≠X;omega),fun g h1 h2=>?_⟩
 rcases J.at_ with e | ⟨g',e,M⟩
 ·exact h.apart g (e▸h1) h2
 ·rw [h1] at e;injection e with e;have:=(h.notes.lt g h2).2;omega
theorem nG.noteRow (h:nG w X s i l lv nv ns) {D:World} {nv':Value} {ns':List aV} (J:mC (X+1) w D nv nv' ns'):nG (D.setCell ⟨X,3,none⟩ nv') X s i l lv nv' ns':=by
 have O:D.heap[X]? = w.heap[X]? := J.bel.block X (by omega);have hb:ac D X 142 (eK s i lv nv):=O.trans h.blk;have Q:cq (X+1) D lv l:=by
  refine ⟨h.toks.1,?_⟩;rcases h.toks.2 with S | ⟨g,cap,cur,e,N,K,r⟩
  ·exact .inl S
  ·refine .inr ⟨g,cap,cur,e,N,?_,r⟩;(have I:lv.ownBlock=some g:=by rw [e];rfl);exact (J.keep g (h.toks.lt g I).2 (fun U=>h.apart g I U)).trans K
 refine ⟨by simpa [eK] using hb.set_ 3 nv',Q.keep fun b hb _=>Below.heap_setCell D ⟨X,3,none⟩ _ b (by show b≠X;omega),
  J.own.keep fun b hb _=>Below.heap_setCell D ⟨X,3,none⟩ _ b (by show b≠X;omega),fun g h1 h2=>?_⟩
 rcases J.at_ with e | ⟨g',e,M⟩
 ·exact h.apart g h1 (e▸h2)
 ·rw [h2] at e;injection e with e;have:=(h.toks.lt g h1).2;omega
theorem bP.keep [NsC] (h:bP w X s i l) (D:∀ b,X≤b→b<w.heap.size→w'.heap[b]? = w.heap[b]?):bP w' X s i l:=by obtain ⟨lv,nv,I⟩:=h.out;exact ⟨⟨lv,nv,I.keep D⟩,h.le,h.most,h.few⟩
theorem bP.below [NsC] (h:bP w X s i l) (hb:Below w.heap.size w w'):bP w' X s i l:=h.keep fun b _ hlt=>hb.block b hlt
theorem bP.lt [NsC] (h:bP w X s i l):X<w.heap.size:=by obtain ⟨lv,nv,D⟩:=h.out;exact D.blk.lt
theorem bP.set [NsC] (h:bP w X s i l) (j:Nat) (D:j≤s.size):bP (w.setCell ⟨X,1,none⟩ (.int .i64 (j:Int))) X s j l:=by obtain ⟨lv,nv,I⟩:=h.out;exact ⟨⟨lv,nv,I.set j⟩,D,h.most,h.few⟩
end
def lB [NsC] (X:Nat) (s:ByteArray) (w:World) (i:Nat) (l:List aV) (v:Value) (e:Ending) (w':World):Prop:=
 e=.returned v∧bP w' X s i l∧Below X w w'
end
section
open Go.RowKit Go.Lib Go.Proofs
attribute [local go_sem ↓] Go.wp_at_zero Go.wp_at_succ
attribute [local go_sem] bU bV bW dg dh di dk
theorem bt.kid {X:Nat→Prop} {w:World} {A0:Option Addr} {n c:Nat} {l:List Nd} (h:bt X w (.slice A0 n c) l) (i:Nat) (O:i<l.length) :
  ∃ b off A cp,A0=some ⟨b,off,none⟩∧X b∧b<w.heap.size∧w.cell? ⟨b,off+i * 4,none⟩=some (.int .i64 l[i].kind)∧w.cell? ⟨b,off+i * 4+1,none⟩=some (.string l[i].text) ∧
    w.cell? ⟨b,off+i * 4+2,none⟩=some (.slice A l[i].kids.length cp)∧w.cell? ⟨b,off+i * 4+3,none⟩=some (.int .i64 l[i].pos) ∧
    av X w (.agg #[.int .i64 l[i].kind,.string l[i].text,.slice A l[i].kids.length cp,.int .i64 l[i].pos]) l[i]:=by obtain ⟨r,c1,xs,e,_,K,M⟩:=h;injection e with e1 e2 e3;subst e1 e2 e3;obtain ⟨b,off,eA,S,Q⟩:=K.2 (by omega);obtain ⟨ys,U,I⟩:=M.get i O;obtain ⟨A,cp,zs,e,q,o,k⟩:=U.toV;subst e;have g:=fun j (N:j<4) v (J:[Value.int .i64 l[i].kind,.string l[i].text,.slice A l[i].kids.length cp,.int .i64 l[i].pos][j]? = some v)=>Q (i * 4+j) v (by rw [I j N];exact J);have D:=g 0 (by omega) _ rfl;exact ⟨b,off,A,cp,eA,S,World.block_lt_of_cell? w _ D,D,by simpa [Nat.add_assoc] using g 1 (by omega) _ rfl,by simpa [Nat.add_assoc] using g 2 (by omega) _ rfl,by simpa [Nat.add_assoc] using g 3 (by omega) _ rfl,A,cp,zs,rfl,q,o,k⟩
theorem av.kidsV {X:Nat→Prop} {w:World} {k t a:Value} {A:Option Addr} {m c:Nat} {n:Nd} (h:av X w (.agg #[k,t,.slice A m c,a]) n):bt X w (.slice A m c) n.kids:=by obtain ⟨K,c1,xs,e,J,I,D⟩:=h;injection e with e;injection e with e;simp only [List.cons.injEq,and_true] at e;obtain ⟨_,_,e,_⟩:=e;exact ⟨K,c1,xs,e,J,I,D⟩
theorem av.cells {X:Nat→Prop} {w:World} {k t a:Value} {A:Option Addr} {m c:Nat} {n:Nd} (h:av X w (.agg #[k,t,.slice A m c,a]) n):bj X w n [.int .i64 n.kind,.string n.text,.slice A n.kids.length c,.int .i64 n.pos]:=by obtain ⟨I,c1,e,D⟩:=h.toC;injection e with e;injection e with e;simp only [List.cons.injEq,and_true] at e;obtain ⟨_,_,e,_⟩:=e;injection e with e1 _ e3;rw [e1,e3];exact D
end
section
open Go.RowKit Go.Lib Go.Proofs
abbrev bo (w:World) (v:Value) (n:Nd):Prop:=av (fun _=>True) w v n
theorem av.wide {X:Nat→Prop} {w:World} {v:Value} {n:Nd} (h:av X w v n):bo w v n:=h.mono fun _ _ _=>trivial
theorem av.below {X:Nat→Prop} {w w':World} {v:Value} {n:Nd} (h:av X w v n) (hb:Below w.heap.size w w'):av X w' v n:=h.keep fun b _ hlt=>hb.block b hlt
theorem bt.below {X:Nat→Prop} {w w':World} {v:Value} {l:List Nd} (h:bt X w v l) (hb:Below w.heap.size w w'):bt X w' v l:=by obtain ⟨A,cap,xs,e,J,I,D⟩:=h;exact ⟨A,cap,xs,e,J,I.keep fun b _ hlt=>hb.block b hlt,D.keep fun b _ hlt=>hb.block b hlt⟩
abbrev cY (w:World) (v:Value) (l:List Nd):Prop:=bt (fun _=>True) w v l
theorem b7 (a b:Int):(a==b)=decide (a=b):=by rw [Bool.eq_iff_iff];simp
def ay (w:World):Prop:=∃ m:Int,w.cell? ⟨0,0,none⟩=some (.int .i64 m)
theorem ay.below {w w':World} (h:ay w) (hb:Below w.heap.size w w'):ay w':=by obtain ⟨m,h⟩:=h;exact ⟨m,(hb.cell (World.block_lt_of_cell? w _ h)).trans h⟩
structure Fv where
 k:FuncId
 cap:Array Value
def Fv.val (f:Fv):Value:=.func (.func f.k) #[] f.cap
structure dT (d:Nat) (P:Nd→Bool) (f:Fv) (w0:World):Prop where
 enter:∀ a w,(callFunc f.k a).run Tryz.prog w=.ok (.enter f.k a) w
 out:∀ (w:World) (v:Value) (n:Nd),Below w0.heap.size w0 w→bo w v n→cQ d n→Calls Tryz.prog f.k (#[v]++f.cap) w fun e w'=>e=.returned (.bool (P n))∧Below w.heap.size w w'
theorem dT.below {d:Nat} {P:Nd→Bool} {f:Fv} {w0 w1:World} (h:dT d P f w0) (hb:Below w0.heap.size w0 w1):dT d P f w1:=
 ⟨h.enter,fun w v n hw=>h.out w v n (ah hb hw)⟩
structure mE (P:ByteArray→Bool) (f:Fv) (w0:World):Prop where
 enter:∀ a w,(callFunc f.k a).run Tryz.prog w=.ok (.enter f.k a) w
 out:∀ (w:World) (s:ByteArray),Below w0.heap.size w0 w→s.size≤1000000000→Calls Tryz.prog f.k (#[.string s]++f.cap) w fun e w'=>e=.returned (.bool (P s))∧Below w.heap.size w w'
theorem mE.below {P:ByteArray→Bool} {f:Fv} {w0 w1:World} (h:mE P f w0) (hb:Below w0.heap.size w0 w1):mE P f w1:=
 ⟨h.enter,fun w s hw=>h.out w s (ah hb hw)⟩
def bF (d:Nat) (P:Nd→Bool) (f:FuncId):Prop:=
 ∀ (w:World) (v:Value) (n:Nd),ay w→bo w v n→cQ d n→Calls Tryz.prog f #[v] w fun e w'=>e=.returned (.bool (P n))∧Below w.heap.size w w'
theorem bF.so {d:Nat} {P:Nd→Bool} {f:FuncId} (h:bF d P f) (D:∀ a w,(callFunc f a).run Tryz.prog w=.ok (.enter f a) w) (w0:World) (I:ay w0):dT d P ⟨f,#[]⟩ w0:=
 ⟨D,fun w v n hb hv hd=>h w v n (I.below hb) hv hd⟩
theorem bF.le {d d':Nat} {P:Nd→Bool} {f:FuncId} (h:bF d P f) (hd:∀ n,cQ d' n→cQ d n):bF d' P f:=fun w v n hT hv hn=>h w v n hT hv (hd n hn)
theorem fO (s p:ByteArray) (w:World):Calls Tryz.prog 43 #[.string s,.string p] w fun e w'=>e=.returned (.tuple #[.string ⟨(Lib.trimPrefix s.data.toList p.data.toList).toArray⟩,.bool (Lib.hasPrefix s.data.toList p.data.toList)])∧w'=w:=
 Any.strings_CutPrefix Tryz.laysCutP s p w
theorem rL (s p:ByteArray) (w:World) (D:s.size≤9223372036854775807):Calls Tryz.prog 27 #[.string s,.string p] w fun e w'=>e=.returned (.tuple #[.string ⟨(Lib.trimSuffix s.data.toList p.data.toList).toArray⟩,.bool (Lib.hasSuffix s.data.toList p.data.toList)])∧w'=w:=
 Any.strings_CutSuffix Tryz.laysCutS s p w D
theorem pt (s:ByteArray) (c:Int) (D:s.size<4611686018427387904) (w:World):Calls Tryz.prog 76 #[.string s,.int .u8 c] w fun e w'=>e=.returned (.int .i64 (Lib.lastIndexByte s c))∧w'=w:=
 Any.strings_LastIndexByte Tryz.laysLastB s c D w
theorem pu (s cs:ByteArray) (w:World) (D:cs.size<4294967281) (I:∀ (j:Nat) b,cs.data.toList[j]? = some b→b.toNat<128):Calls Tryz.prog 77 #[.string s,.string cs] w fun e w'=>e=.returned (.string ⟨(Lib.trimLeftS s.data.toList cs.data.toList).toArray⟩)∧Below w.heap.size w w':=
 Any.strings_TrimLeft_laid Tryz.laysTrimL (by kernel_rfl) s cs w D I
theorem pv (s cs:ByteArray) (w:World) (I:s.size≤9223372036854775807) (D:cs.size<4294967281) (J:∀ (j:Nat) b,cs.data.toList[j]? = some b→b.toNat<128):Calls Tryz.prog 54 #[.string s,.string cs] w fun e w'=>e=.returned (.string ⟨(Lib.trimRightS s.data.toList cs.data.toList).toArray⟩)∧Below w.heap.size w w':=
 Any.strings_TrimRight_laid Tryz.laysTrimR (by kernel_rfl) s cs w I D J
theorem mR (g:Nat) (lb:Array Value) (eg:∀ args w,(callFunc g args).run Tryz.prog w=.ok (.enter g args) w) (p:Nat→Bool) (s:ByteArray) (w:World) (D:s.size≤4294967296) (I:Go.Proofs.PredGrows Tryz.prog g lb p w) :
  Calls Tryz.prog 65 #[.string s,.func (.func g) #[] lb] w fun e w'=>∃ A,e=.returned (.slice (some ⟨A,0,none⟩) (Lib.goFieldsP p s).length (Lib.goFieldsP p s).length)∧w.heap.size≤A ∧
   w'.ownsRow w.heap.size 9 1 (.slice (some ⟨A,0,none⟩) (Lib.goFieldsP p s).length (Lib.goFieldsP p s).length) (Lib.goFieldsP p s).length ((Lib.goFieldsP p s).map Value.string)∧Below w.heap.size w w':=
 Any.strings_FieldsFunc_grows Tryz.laysFields g lb eg p s w D I (by kernel_rfl) (by kernel_rfl)
theorem mS (w:World) (t:TypeId) (x:_):Below w.heap.size w (Lib.bytesWorld w t x):=by unfold Lib.bytesWorld;exact below_freeze ((Below.refl _ _).drew.alloc (Nat.le_refl _) _) (Nat.le_refl _) _
theorem mT (s:ByteArray) (n:Int) (D:s.size≤18) (h:Lib.atoi s.data.toList=some n) (w:World):Calls Tryz.prog 45 #[.string s] w fun e w'=>e=.returned (.tuple #[.int .i64 n,.nilIface])∧Below w.heap.size w w':=
 (Any.strconv_Atoi Tryz.laysAtoi s n D h w).mono fun _ _ h=>⟨h.1,by obtain ⟨t,rfl⟩:=h.2;exact mS w _ t⟩
theorem mU (i:Nat) (D:i<100) (w:World):Calls Tryz.prog 46 #[.int .i64 i] w fun e w'=>e=.returned (.string ⟨(Lib.decDigits i).toArray⟩)∧w'=w:=
 Any.strconv_Itoa_small Tryz.laysItoa i D w
theorem fP (s sep:ByteArray) (w:World) (D:s.size<4294967281) (J:ay w):Calls Tryz.prog 44 #[.string s,.string sep] w fun e w'=>e=.returned (.tuple #[.string ⟨(Lib.cut s.data.toList sep.data.toList).1.toArray⟩,.string ⟨(Lib.cut s.data.toList sep.data.toList).2.1.toArray⟩,.bool (Lib.cut s.data.toList sep.data.toList).2.2])∧Below w.heap.size w w':=by obtain ⟨m,I⟩:=J;exact (Any.strings_Cut Tryz.laysCut s sep m w D I).mono fun _ _ h=>⟨h.1,by obtain ⟨n,rfl⟩:=h.2;exact ab (Below.refl _ _) n⟩
end
end Go.Proofs.YtmmjgmcfdnkomaaGreatDoor
