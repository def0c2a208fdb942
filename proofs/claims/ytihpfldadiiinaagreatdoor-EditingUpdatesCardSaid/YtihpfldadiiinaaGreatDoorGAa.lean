/-
 Part 1 of the proof: the executor over the kit's code with its soundness, or contracts of functions.
-/
import Derived.Orders
import Derived.LoadGo3
import Derived.Below
import Derived.Deep.LoopGhost
import Derived.Maps.Keyed
import Derived.DeepKeys4
import Derived.RangeFuncNested
import Derived.RangeFuncBound
import Derived.RangeFuncCalls
import Derived.RangeFuncLeaves
import Derived.OrdersIn
import Derived.TacticsIn
import Derived.Laws.AppendOwn
import Derived.WalkKit
import Derived.Laws.Cells
import Derived.Lib.ConvBytes
set_option linter.unusedSimpArgs false
set_option linter.unusedVariables false
set_option linter.unusedSectionVars false
set_option linter.defProp false
set_option maxRecDepth 100000
namespace Go.Sx
open Go
inductive D where
 |int (k:IntKind) (n:Int)
 |bool (b:Bool)
 |str (s:List UInt8)
 |slice (xs:List (List D))
 |clo (f:FuncId) (caps:List D)
 |agg (cs:List D)
 |ptr (cs:List D)                      -- a pointer to memory that does not change any more and reads so
 |mp (rows:List (List D))              -- a map that does not change any more:its rows
 deriving Inhabited
inductive K where
 |int (k:IntKind)|bool|str|slice (ks:List K)|fn|agg (ks:List K)|ptr (ks:List K)|mp (ks:List K)
 deriving Inhabited,Repr
mutual
def K.beq:K→K→Bool
 | .int a,.int b=>decide (a=b)
 | .bool,.bool| .str,.str| .fn,.fn=>true
 | .slice a,.slice b| .agg a,.agg b| .ptr a,.ptr b| .mp a,.mp b=>K.beqL a b
 |_,_=>false
def K.beqL:List K→List K→Bool
 | [],[]=>true
 |a::r,b::bs=>K.beq a b&&K.beqL r bs
 |_,_=>false
end
mutual
theorem K.eq_of_beq:∀ {a b:K},K.beq a b=true→a=b
 | .int a,b,h=>by cases b <;> simp_all [K.beq]
 | .bool,b,h=>by cases b <;> simp_all [K.beq]
 | .str,b,h=>by cases b <;> simp_all [K.beq]
 | .fn,b,h=>by cases b <;> simp_all [K.beq]
 | .slice a,b,h=>by
   cases b <;> simp [K.beq]at h
   rw [K.eq_of_beqL h]
 | .agg a,b,h=>by
   cases b <;> simp [K.beq]at h
   rw [K.eq_of_beqL h]
 | .ptr a,b,h=>by
   cases b <;> simp [K.beq]at h
   rw [K.eq_of_beqL h]
 | .mp a,b,h=>by
   cases b <;> simp [K.beq]at h
   rw [K.eq_of_beqL h]
theorem K.eq_of_beqL:∀ {a b:List K},K.beqL a b=true→a=b
 | [],b,h=>by cases b <;> simp_all [K.beqL]
 | a ::r,b,h=>by
   cases b with
   |nil=>simp [K.beqL]at h
   | cons b bs=>
     simp [K.beqL]at h;rw [K.eq_of_beq h.1,K.eq_of_beqL h.2]
end
mutual
def HasK:K→D→Prop
 | .int k,.int k' n=>k'=k∧k.min≤n∧n≤k.max
 | .bool,.bool _=>True
 | .str,.str _=>True
 | .slice ks,.slice xs=>∀x∈xs,HasKs ks x
 | .fn,.clo _ _=>True
 | .agg ks,.agg cs=>HasKs ks cs
 | .ptr ks,.ptr cs=>HasKs ks cs
 | .mp ks,.mp xs=>∀x∈xs,HasKs ks x
 |_,_=>False
def HasKs:List K→List D→Prop
 | [],[]=>True
 |k::ks,d::ds=>HasK k d∧HasKs ks ds
 |_,_=>False
end
mutual
def K.zero:K→D
 | .int k=>.int k 0
 | .bool=>.bool false
 | .str=>.str []
 | .slice _=>.slice []
 | .fn=>.clo 0 []
 | .agg ks=>.agg (K.zeros ks)
 | .ptr ks=>.ptr (K.zeros ks)
 | .mp _=>.mp []
def K.zeros:List K→List D
 | []=>[]
 |k::ks=>k.zero::K.zeros ks
end
mutual
theorem HasK.zero:∀k:K,HasK k k.zero
 | .int k=>by cases k <;> simp [HasK,K.zero,IntKind.min,IntKind.max,IntKind.signed,IntKind.bits]
 | .bool=>by simp [HasK,K.zero]
 | .str=>by simp [HasK,K.zero]
 | .slice _=>by simp [HasK,K.zero]
 | .fn=>by simp [HasK,K.zero]
 | .agg ks=>by simp [HasK,K.zero,HasKs.zeros ks]
 | .ptr ks=>by simp [HasK,K.zero,HasKs.zeros ks]
 | .mp _=>by simp [HasK,K.zero]
theorem HasKs.zeros:∀ks:List K,HasKs ks (K.zeros ks)
 | []=>by simp [HasKs,K.zeros]
 |k::ks=>by simp [HasKs,K.zeros,HasK.zero k,HasKs.zeros ks]
end
theorem HasKs.length:∀ {ks:List K} {ds:List D},HasKs ks ds→ds.length=ks.length
 | [],[],_=>rfl
 | [],_::_,h=>by simp [HasKs]at h
 |_::_,[],h=>by simp [HasKs]at h
 |k::ks,d::ds,h=>by simp [HasKs]at h;simp [HasKs.length h.2]
theorem HasKs.get:∀ {ks:List K} {ds:List D} {i:Nat} {k:K},HasKs ks ds→ks[i]? =some k→∃d,ds[i]? =some d∧HasK k d
 | [],_,_,_,_,h=>by simp at h
 |_::_,[],_,_,h,_=>by simp [HasKs]at h
 | k::ks,d::ds,0,k',h,h'=>by
   simp [HasKs]at h h';exact⟨d,by simp,h'▸h.1⟩
 | k::ks,d::ds,i+1,k',h,h'=>by
   simp [HasKs]at h h';simpa using HasKs.get h.2 h'
theorem HasKs.append:∀ {ks ks':List K} {ds ds':List D},HasKs ks ds→HasKs ks' ds'→HasKs (ks++ks') (ds++ds')
 | [],_,[],_,_,h=>by simpa using h
 | [],_,_::_,_,h,_=>by simp [HasKs]at h
 |_::_,_,[],_,h,_=>by simp [HasKs]at h
 | k::ks,_,d::ds,_,h,h'=>by
   simp [HasKs]at h ⊢;exact⟨h.1,HasKs.append h.2 h'⟩
inductive O1 where
 |not|len|neg (k:IntKind)|cpl (k:IntKind)|conv (k:IntKind)|bytes|mpd|rows
 deriving Inhabited,DecidableEq,Repr
inductive O2 where
 |add (k:IntKind)|sub (k:IntKind)|mul (k:IntKind)|quo (k:IntKind)|rem (k:IntKind)
 |and (k:IntKind)|or (k:IntKind)|xor (k:IntKind)|andNot (k:IntKind)|shl (k:IntKind)|shr (k:IntKind)
 |lt|le|gt|ge|eq|ne|sidx|scat|band|bor|app|find
 deriving Inhabited,DecidableEq,Repr
inductive T where
 |var (i:Nat)
 |int (k:IntKind) (n:Int)
 |bool (b:Bool)
 |str (s:List UInt8)
 |nils                                   -- the empty slice
 |fn (f:FuncId)
 |o1 (o:O1) (a:T)
 |o2 (o:O2) (a b:T)
 |idx (s i:T) (j:Nat) (k:K)        -- cell j of element i
 |ite (c a b:T)
 |lnil|lcons (a b:T)
 |push (s e:T)                         -- s with an element (a list of cells)
 |upd (s i:T) (j:Nat) (e:T)        -- s,the cells from j on of element i replaced
 |sub (s lo hi:T)
 |rep (n e:T)
 |sel (e i:T) (k:K)                  -- cell i of a list of cells
 |clo (f:FuncId) (e:T)               -- a function value that holds the list e
 |ptr (e:T)                            -- a pointer to unchanging cells
 |fld (p:T) (j:Nat) (k:K)          -- cell j behind such a pointer
 |padd (p:T) (n:Nat)                 -- the pointer n cells on
 deriving Inhabited,Repr
def intBits (op:BinOp) (k:IntKind) (x y:Int):Int:=
 let a:=BitVec.ofInt k.bits x
 let b:=BitVec.ofInt k.bits y
 match op with
 | .and=>k.wrap (a &&& b).toNat
 | .or=>k.wrap (a ||| b).toNat
 | .xor=>k.wrap (a ^^^ b).toNat
 |_=>k.wrap (a &&& ~~~b).toNat
def O1.eval:O1→D→D
 | .not,.bool b=>.bool !b
 | .not,_=>.bool false
 | .len,.slice xs=>.int .i64 (xs.length:Nat)
 | .len,.str s=>.int .i64 (s.length:Nat)
 | .len,_=>.int .i64 0
 | .neg k,.int _ n=>.int k (k.wrap (0 - n))
 | .neg k,_=>.int k 0
 | .cpl k,.int _ n=>.int k (intBits .xor k (if k.signed then -1 else k.max) n)
 | .cpl k,_=>.int k 0
 | .conv k,.int _ n=>.int k (k.wrap n)
 | .conv k,_=>.int k 0
 | .bytes,.str s=>.slice (s.map fun c=>[.int .u8 (c.toNat:Nat)])
 | .bytes,_=>.slice []
 | .mpd,.slice xs=>.mp xs
 | .mpd,_=>.mp []
 | .rows,.mp xs=>.slice xs
 | .rows,_=>.slice []
def D.eqb:D→D→Bool
 | .int _ a,.int _ b=>a==b
 | .bool a,.bool b=>a==b
 | .str a,.str b=>a==b
 |_,_=>false
mutual
def D.same:D→D→Bool
 | .int k a,.int k' b=>decide (k=k')&&a==b
 | .bool a,.bool b=>a==b
 | .str a,.str b=>a==b
 | .agg a,.agg b=>D.sameL a b
 |_,_=>false
def D.sameL:List D→List D→Bool
 | [],[]=>true
 |a::l,b::r=>D.same a b&&D.sameL l r
 |_,_=>false
end
def D.findRow (key:D):List (List D)→Nat→Int
 | [],_=> -1
 |x::xs,i=>if D.same key (x.headD (.bool false))then i else D.findRow key xs (i+1)
def O2.eval:O2→D→D→D
 | .add k,.int _ a,.int _ b=>.int k (k.wrap (a+b))
 | .sub k,.int _ a,.int _ b=>.int k (k.wrap (a - b))
 | .mul k,.int _ a,.int _ b=>.int k (k.wrap (a * b))
 | .quo k,.int _ a,.int _ b=>.int k (k.wrap (a.tdiv b))
 | .rem k,.int _ a,.int _ b=>.int k (k.wrap (a.tmod b))
 | .and k,.int _ a,.int _ b=>.int k (intBits .and k a b)
 | .or k,.int _ a,.int _ b=>.int k (intBits .or k a b)
 | .xor k,.int _ a,.int _ b=>.int k (intBits .xor k a b)
 | .andNot k,.int _ a,.int _ b=>.int k (intBits .andNot k a b)
 | .shl k,.int _ a,.int _ b=>.int k (k.wrap (a * 2 ^ (min b.toNat k.bits)))
 | .shr k,.int _ a,.int _ b=>.int k (k.wrap (a.fdiv (2 ^ (min b.toNat k.bits))))
 | .add k,_,_| .sub k,_,_| .mul k,_,_| .quo k,_,_| .rem k,_,_| .and k,_,_| .or k,_,_| .xor k,_,_| .andNot k,_,_
 | .shl k,_,_| .shr k,_,_=>.int k 0
 | .lt,.int _ a,.int _ b=>.bool (decide (a < b))
 | .le,.int _ a,.int _ b=>.bool (decide (a≤b))
 | .gt,.int _ a,.int _ b=>.bool (decide (a > b))
 | .ge,.int _ a,.int _ b=>.bool (decide (a≥b))
 | .lt,.str a,.str b=>.bool (Op.bytesLess a b)
 | .le,.str a,.str b=>.bool (Op.bytesLess a b||a==b)
 | .gt,.str a,.str b=>.bool (!(Op.bytesLess a b||a==b))
 | .ge,.str a,.str b=>.bool (!Op.bytesLess a b)
 | .lt,_,_| .le,_,_| .gt,_,_| .ge,_,_=>.bool false
 | .eq,a,b=>.bool (D.eqb a b)
 | .ne,a,b=>.bool (!D.eqb a b)
 | .sidx,.str s,.int _ i=>.int .u8 ((s.getD i.toNat 0).toNat:Nat)
 | .sidx,_,_=>.int .u8 0
 | .scat,.str a,.str b=>.str (a++b)
 | .scat,_,_=>.str []
 | .band,.bool a,.bool b=>.bool (a&&b)
 | .bor,.bool a,.bool b=>.bool (a||b)
 | .band,_,_| .bor,_,_=>.bool false
 | .app,.slice a,.slice b=>.slice (a++b)
 | .app,.slice a,_=>.slice a
 | .app,_,_=>.slice []
 | .find,.slice a,b=>.int .i64 (D.findRow b a 0)
 | .find,_,_=>.int .i64 (-1)
def D.elem:D→D→List D
 | .slice xs,.int _ i=>xs.getD i.toNat []
 |_,_=>[]
def D.cell (l:List D) (j:Nat) (k:K):D:=l.getD j k.zero
def D.cellAt (l:List D) (i:D) (k:K):D:=match i with| .int _ i=>l.getD i.toNat k.zero|_=>k.zero
def D.cond:D→D→D→D
 | .bool true,a,_=>a
 |_,_,b=>b
def D.list:D→List D
 | .agg l=>l
 |_=>[]
def Ze (x:List D) (j:Nat) (e:List D):List D:=x.take j++e++x.drop (j+e.length)
def D.push:D→List D→D
 | .slice xs,e=>.slice (xs++[e])
 |_,e=>.slice [e]
def D.upd:D→D→Nat→List D→D
 | .slice xs,.int _ i,j,e=>.slice (xs.modify i.toNat fun x=>Ze x j e)
 |s,_,_,_=>s
def D.sub:D→D→D→D
 | .slice xs,.int _ a,.int _ b=>.slice ((xs.take b.toNat).drop a.toNat)
 | .str xs,.int _ a,.int _ b=>.str ((xs.take b.toNat).drop a.toNat)
 |s,_,_=>s
def D.rep:D→List D→D
 | .int _ n,e=>.slice (List.replicate n.toNat e)
 |_,_=>.slice []
def D.cells:D→List D
 | .ptr l=>l
 |_=>[]
def D.padd:D→Nat→D
 | .ptr l,n=>.ptr (l.drop n)
 |d,_=>d
def den (ρ:List D):T→D
 | .var i=>ρ.getD i (.bool false)
 | .int k n=>.int k n
 | .bool b=>.bool b
 | .str s=>.str s
 | .nils=>.slice []
 | .fn f=>.clo f []
 | .o1 o a=>o.eval (den ρ a)
 | .o2 o a b=>o.eval (den ρ a) (den ρ b)
 | .idx s i j k=>D.cell (D.elem (den ρ s) (den ρ i)) j k
 | .ite c a b=>D.cond (den ρ c) (den ρ a) (den ρ b)
 | .lnil=>.agg []
 | .lcons a b=>.agg (den ρ a::(den ρ b).list)
 | .push s e=>(den ρ s).push (den ρ e).list
 | .upd s i j e=>(den ρ s).upd (den ρ i) j (den ρ e).list
 | .sub s lo hi=>(den ρ s).sub (den ρ lo) (den ρ hi)
 | .rep n e=>(den ρ n).rep (den ρ e).list
 | .sel e i k=>D.cellAt (den ρ e).list (den ρ i) k
 | .clo f e=>.clo f (den ρ e).list
 | .ptr e=>.ptr (den ρ e).list
 | .fld p j k=>D.cell (den ρ p).cells j k
 | .padd p n=>(den ρ p).padd n
def T.beq:T→T→Bool
 | .var i,.var j=>decide (i=j)
 | .int k n,.int k' n'=>decide (k=k')&&decide (n=n')
 | .bool b,.bool c=>decide (b=c)
 | .str s,.str t=>decide (s=t)
 | .nils,.nils=>true
 | .fn f,.fn g=>decide (f=g)
 | .o1 o a,.o1 o' a'=>decide (o=o')&&T.beq a a'
 | .o2 o a b,.o2 o' a' b'=>decide (o=o')&&T.beq a a'&&T.beq b b'
 | .idx s i j k,.idx s' i' j' k'=>decide (j=j')&&K.beq k k'&&T.beq s s'&&T.beq i i'
 | .ite c a b,.ite c' a' b'=>T.beq c c'&&T.beq a a'&&T.beq b b'
 | .lnil,.lnil=>true
 | .lcons a b,.lcons a' b'=>T.beq a a'&&T.beq b b'
 | .push s e,.push s' e'=>T.beq s s'&&T.beq e e'
 | .upd s i j e,.upd s' i' j' e'=>decide (j=j')&&T.beq s s'&&T.beq i i'&&T.beq e e'
 | .sub s a b,.sub s' a' b'=>T.beq s s'&&T.beq a a'&&T.beq b b'
 | .rep n e,.rep n' e'=>T.beq n n'&&T.beq e e'
 | .sel e i k,.sel e' i' k'=>K.beq k k'&&T.beq e e'&&T.beq i i'
 | .clo f e,.clo f' e'=>decide (f=f')&&T.beq e e'
 | .ptr e,.ptr e'=>T.beq e e'
 | .fld p j k,.fld p' j' k'=>decide (j=j')&&K.beq k k'&&T.beq p p'
 | .padd p n,.padd p' n'=>decide (n=n')&&T.beq p p'
 |_,_=>false
theorem T.eq_of_beq:∀ {a b:T},T.beq a b=true→a=b:=by
 intro a;induction a with
 |var i=>intro b h;cases b <;> simp_all [T.beq]
 |int k n=>intro b h;cases b <;> simp_all [T.beq]
 |bool c=>intro b h;cases b <;> simp_all [T.beq]
 |str s=>intro b h;cases b <;> simp_all [T.beq]
 |nils=>intro b h;cases b <;> simp_all [T.beq]
 |fn f=>intro b h;cases b <;> simp_all [T.beq]
 |o1 o a ih=>intro b h;cases b <;> simp [T.beq]at h;rw [h.1,ih h.2]
 |o2 o a a' ih ih'=>intro b h;cases b <;> simp [T.beq]at h;rw [h.1.1,ih h.1.2,ih' h.2]
 |idx s i j k ih ih'=>intro b h;cases b <;> simp [T.beq]at h;rw [h.1.1.1,K.eq_of_beq h.1.1.2,ih h.1.2,ih' h.2]
 |ite c x y ih1 ih2 ih3=>intro b h;cases b <;> simp [T.beq]at h;rw [ih1 h.1.1,ih2 h.1.2,ih3 h.2]
 |lnil=>intro b h;cases b <;> simp_all [T.beq]
 |lcons x y ih1 ih2=>intro b h;cases b <;> simp [T.beq]at h;rw [ih1 h.1,ih2 h.2]
 |push x y ih1 ih2=>intro b h;cases b <;> simp [T.beq]at h;rw [ih1 h.1,ih2 h.2]
 |upd s i j e ih1 ih2 ih3=>intro b h;cases b <;> simp [T.beq]at h;rw [h.1.1.1,ih1 h.1.1.2,ih2 h.1.2,ih3 h.2]
 |sub s x y ih1 ih2 ih3=>intro b h;cases b <;> simp [T.beq]at h;rw [ih1 h.1.1,ih2 h.1.2,ih3 h.2]
 |rep x y ih1 ih2=>intro b h;cases b <;> simp [T.beq]at h;rw [ih1 h.1,ih2 h.2]
 |sel e i k ih1 ih2=>intro b h;cases b <;> simp [T.beq]at h;rw [K.eq_of_beq h.1.1,ih1 h.1.2,ih2 h.2]
 |clo f e ih=>intro b h;cases b <;> simp [T.beq]at h;rw [h.1,ih h.2]
 |ptr e ih=>intro b h;cases b <;> simp [T.beq]at h;rw [ih h]
 |fld p j k ih=>intro b h;cases b <;> simp [T.beq]at h;rw [h.1.1,K.eq_of_beq h.1.2,ih h.2]
 |padd p n ih=>intro b h;cases b <;> simp [T.beq]at h;rw [h.1,ih h.2]
abbrev Mem:=Nat→Option Obj
def MemOk (m:Mem) (w:World):Prop:=∀b o,m b=some o→w.heap[b]? =some o
def Mem.le (m m':Mem):Prop:=∀b o,m b=some o→m' b=some o
theorem Mem.le_refl (m:Mem):m.le m:=fun _ _ h=>h
theorem Mem.le_trans {a b c:Mem} (h:a.le b) (h':b.le c):a.le c:=fun _ _ x=>h' _ _ (h _ _ x)
def cap:Nat:=140737488355328
inductive RepD (m:Mem):D→Value→Prop
 |int (k:IntKind) (n:Int):RepD m (.int k n) (.int k n)
 |bool (b:Bool):RepD m (.bool b) (.bool b)
 |str (s:List UInt8) (h:s.length≤cap):RepD m (.str s) (.string ⟨s.toArray⟩)
 |empty (a:Option Addr) (c:Nat):RepD m (.slice []) (.slice a 0 c)
 |slice (xs:List (List D)) (b off:Nat) (arr:Array Value) (t:TypeId) (fz:Nat×Nat) (e c:Nat) (hc:xs.length≤c) (hcap:xs.length≤cap)
     (hm:m b=some (.cells arr t fz)) (he:∀x∈xs,x.length=e) (hsz:off+xs.length * e≤arr.size)
     (hv:∀(i j:Nat) x d v,xs[i]? =some x→x[j]? =some d→arr[off+i * e+j]? =some v→RepD m d v):RepD m (.slice xs) (.slice (some ⟨b,off,none⟩) xs.length c)
 |clo (f:FuncId) (caps:List D) (arr:Array Value) (hsz:arr.size=caps.length)
     (hv:∀(i:Nat) d v,caps[i]? =some d→arr[i]? =some v→RepD m d v):RepD m (.clo f caps) (.func (.func f) #[] arr)
 |agg (cs:List D) (arr:Array Value) (hsz:arr.size=cs.length)
     (hv:∀(i:Nat) d v,cs[i]? =some d→arr[i]? =some v→RepD m d v):RepD m (.agg cs) (.agg arr)
 |ptr (cs:List D) (b off:Nat) (arr:Array Value) (t:TypeId) (fz:Nat×Nat) (hm:m b=some (.cells arr t fz)) (hsz:off+cs.length≤arr.size)
     (hv:∀(j:Nat) d v,cs[j]? =some d→arr[off+j]? =some v→RepD m d v):RepD m (.ptr cs) (.pointer (some ⟨b,off,none⟩))
 |mp (xs:List (List D)) (b clock:Nat) (es:Array MapEntry) (hm:m b=some (.map es clock)) (hsz:es.size=xs.length) (he:∀x∈xs,x.length=2)
     (nd:∀(i j:Nat) x y,xs[i]? =some x→xs[j]? =some y→D.same (x.headD (.bool false)) (y.headD (.bool false))=true→i=j)
     (hk:∀(i:Nat) x d e,xs[i]? =some x→x[0]? =some d→es[i]? =some e→RepD m d e.key)
     (hv:∀(i:Nat) x d e,xs[i]? =some x→x[1]? =some d→es[i]? =some e→RepD m d e.val):RepD m (.mp xs) (.map (some b))
theorem RepD.mono {m m':Mem} (h:m.le m') {d:D} {v:Value} (r:RepD m d v):RepD m' d v:=by
 induction r with
 |int k n=>exact .int k n
 |bool b=>exact .bool b
 |str s hs=>exact .str s hs
 |empty a c=>exact .empty a c
 |slice xs b off arr t fz e c hc hcap hm he hsz _ ih=>exact .slice xs b off arr t fz e c hc hcap (h _ _ hm) he hsz ih
 |clo f caps arr hsz _ ih=>exact .clo f caps arr hsz ih
 |agg cs arr hsz _ ih=>exact .agg cs arr hsz ih
 |ptr cs b off arr t fz hm hsz _ ih=>exact .ptr cs b off arr t fz (h _ _ hm) hsz ih
 |mp xs b clock es hm hsz he nd _ _ ihk ihv=>exact .mp xs b clock es (h _ _ hm) hsz he nd ihk ihv
inductive SV (L:Type) where
 |d (x:L)
 |nil
 |agg (cs:List (SV L))
 |tup (vs:List (SV L))
 |elt (s i:L) (off:Nat)
 |ptr (o off:Nat)
 |oelt (o:Nat) (i:L) (e off:Nat)
 |bnd (f:FuncId) (o:Nat)             -- a method of a box,bound to it
 |bptr (o:Nat) (i:L) (n:Nat)       -- a pointer to the cell of a box at an index;n:how many cells
 |own (o:Nat)
 |clo (f:FuncId) (caps:List (SV L))
 |grd (c:L) (v:SV L)
 |any
 deriving Inhabited,Repr
inductive OV (L:Type) where
 |box (cs:List (SV L))
 |arr (e:Nat) (x:L)
 |fbox (cs:List L)                     -- a box that is not stored into any more
 |farr (x:L)                           -- an array that is not stored into any more
 |mp (x:L)                             -- a map:a slice of rows,each a key and what stands under it
 |view (q e:Nat) (lo hi:L)           -- a part of the array q
 |yld                                    -- what an iterator is handed
 |sav (cs:List (SV L))                 -- the frame outside,while a round runs
 |dead
 deriving Inhabited,Repr
structure St (L:Type) where
 tmps:List (SV L)
 objs:List (OV L)
 deriving Inhabited,Repr
mutual
def SV.map {L M:Type} (f:L→M):SV L→SV M
 | .d x=>.d (f x)
 | .nil=>.nil
 | .agg cs=>.agg (SV.mapL f cs)
 | .tup vs=>.tup (SV.mapL f vs)
 | .elt s i off=>.elt (f s) (f i) off
 | .ptr o off=>.ptr o off
 | .oelt o i e off=>.oelt o (f i) e off
 | .bnd f o=>.bnd f o
 | .bptr o i n=>.bptr o (f i) n
 | .own o=>.own o
 | .clo g caps=>.clo g (SV.mapL f caps)
 | .grd c v=>.grd (f c) (v.map f)
 | .any=>.any
def SV.mapL {L M:Type} (f:L→M):List (SV L)→List (SV M)
 | []=>[]
 |c::cs=>c.map f::SV.mapL f cs
end
theorem SV.mapL_eq {L M:Type} (f:L→M):∀l:List (SV L),SV.mapL f l=l.map (SV.map f)
 | []=>rfl
 |c::cs=>by simp [SV.mapL,SV.mapL_eq f cs]
def OV.map {L M:Type} (f:L→M):OV L→OV M
 | .box cs=>.box (cs.map (SV.map f))
 | .arr e x=>.arr e (f x)
 | .fbox cs=>.fbox (cs.map f)
 | .farr x=>.farr (f x)
 | .mp x=>.mp (f x)
 | .view q e lo hi=>.view q e (f lo) (f hi)
 | .yld=>.yld
 | .sav cs=>.sav (cs.map (SV.map f))
 | .dead=>.dead
def St.map {L M:Type} (f:L→M) (st:St L):St M:= {tmps:=st.tmps.map (SV.map f),objs:=st.objs.map (OV.map f)}
inductive SV.All {L:Type} (p:L→Prop):SV L→Prop
 |d {x:L} (h:p x):SV.All p (.d x)
 |nil:SV.All p .nil
 |agg {cs:List (SV L)} (h:∀c∈cs,SV.All p c):SV.All p (.agg cs)
 |tup {cs:List (SV L)} (h:∀c∈cs,SV.All p c):SV.All p (.tup cs)
 |elt {s i:L} {off:Nat} (hs:p s) (hi:p i):SV.All p (.elt s i off)
 |ptr {o off:Nat}:SV.All p (.ptr o off)
 |oelt {o e off:Nat} {i:L} (hi:p i):SV.All p (.oelt o i e off)
 |bnd {f:FuncId} {o:Nat}:SV.All p (.bnd f o)
 |bptr {o n:Nat} {i:L} (hi:p i):SV.All p (.bptr o i n)
 |own {o:Nat}:SV.All p (.own o)
 |clo {f:FuncId} {cs:List (SV L)} (h:∀c∈cs,SV.All p c):SV.All p (.clo f cs)
 |grd {c:L} {v:SV L} (hc:p c) (hv:SV.All p v):SV.All p (.grd c v)
 |any:SV.All p .any
inductive OV.All {L:Type} (p:L→Prop):OV L→Prop
 |box {cs:List (SV L)} (h:∀c∈cs,SV.All p c):OV.All p (.box cs)
 |arr {e:Nat} {x:L} (h:p x):OV.All p (.arr e x)
 |fbox {cs:List L} (h:∀c∈cs,p c):OV.All p (.fbox cs)
 |farr {x:L} (h:p x):OV.All p (.farr x)
 |mp {x:L} (h:p x):OV.All p (.mp x)
 |view {q e:Nat} {lo hi:L} (hl:p lo) (hh:p hi):OV.All p (.view q e lo hi)
 |yld:OV.All p .yld
 |sav {cs:List (SV L)} (h:∀c∈cs,SV.All p c):OV.All p (.sav cs)
 |dead:OV.All p .dead
structure St.All {L:Type} (p:L→Prop) (st:St L):Prop where
 tmps:∀v∈st.tmps,SV.All p v
 objs:∀o∈st.objs,OV.All p o
theorem SV.All.mono {L:Type} {p q:L→Prop} (h:∀x,p x→q x) {v:SV L} (hv:SV.All p v):SV.All q v:=by
 induction hv with
 |d hx=>exact .d (h _ hx)
 |nil=>exact .nil
 |agg _ ih=>exact .agg ih
 |tup _ ih=>exact .tup ih
 |elt hs hi=>exact .elt (h _ hs) (h _ hi)
 |ptr=>exact .ptr
 |oelt hi=>exact .oelt (h _ hi)
 |bnd=>exact .bnd
 |bptr hi=>exact .bptr (h _ hi)
 |own=>exact .own
 |clo _ ih=>exact .clo ih
 |grd hc _ ih=>exact .grd (h _ hc) ih
 |any=>exact .any
theorem OV.All.mono {L:Type} {p q:L→Prop} (h:∀x,p x→q x) {v:OV L} (hv:OV.All p v):OV.All q v:=by
 cases hv with
 |box hb=>exact .box fun c hc=>(hb c hc).mono h
 |arr hx=>exact .arr (h _ hx)
 |fbox hx=>exact .fbox fun c hc=>h _ (hx c hc)
 |farr hx=>exact .farr (h _ hx)
 |mp hx=>exact .mp (h _ hx)
 |view hl hh=>exact .view (h _ hl) (h _ hh)
 |yld=>exact .yld
 |sav hb=>exact .sav fun c hc=>(hb c hc).mono h
 |dead=>exact .dead
theorem St.All.mono {L:Type} {p q:L→Prop} (h:∀x,p x→q x) {st:St L} (hs:st.All p):st.All q:=
 ⟨fun v hv=>(hs.tmps v hv).mono h,fun o ho=>(hs.objs o ho).mono h⟩
theorem SV.map_congr {L M:Type} {f g:L→M} {v:SV L} (h:SV.All (fun x=>f x=g x) v):v.map f=v.map g:=by
 induction h with
 |d hx=>simp [SV.map,hx]
 |nil=>rfl
 |agg _ ih=>simp only [SV.map,SV.mapL_eq];rw [List.map_congr_left ih]
 |tup _ ih=>simp only [SV.map,SV.mapL_eq];rw [List.map_congr_left ih]
 |elt hs hi=>simp [SV.map,hs,hi]
 |ptr=>rfl
 |oelt hi=>simp [SV.map,hi]
 |bnd=>rfl
 |bptr hi=>simp [SV.map,hi]
 |own=>rfl
 |clo _ ih=>simp only [SV.map,SV.mapL_eq];rw [List.map_congr_left ih]
 |grd hc _ ih=>simp [SV.map,hc,ih]
 |any=>rfl
theorem OV.map_congr {L M:Type} {f g:L→M} {v:OV L} (h:OV.All (fun x=>f x=g x) v):v.map f=v.map g:=by
 cases h with
 |box hb=>simp only [OV.map];rw [List.map_congr_left fun c hc=>SV.map_congr (hb c hc)]
 |arr hx=>simp [OV.map,hx]
 |fbox hx=>simp only [OV.map];rw [List.map_congr_left hx]
 |farr hx=>simp [OV.map,hx]
 |mp hx=>simp [OV.map,hx]
 |view hl hh=>simp [OV.map,hl,hh]
 |yld=>rfl
 |sav hb=>simp only [OV.map];rw [List.map_congr_left fun c hc=>SV.map_congr (hb c hc)]
 |dead=>rfl
theorem St.map_congr {L M:Type} {f g:L→M} {st:St L} (h:st.All fun x=>f x=g x):st.map f=st.map g:=by
 simp only [St.map];rw [List.map_congr_left fun v hv=>SV.map_congr (h.tmps v hv),List.map_congr_left fun o ho=>OV.map_congr (h.objs o ho)]
abbrev Names:=Nat→Option Value
structure Grown (w w':World) (row:Option Nat):Prop where
 os:w'.os=w.os
 tape:w'.tape=w.tape
 output:w'.output=w.output
 size:w.heap.size≤w'.heap.size
 block:∀k,k < w.heap.size→some k≠row→w'.heap[k]? =w.heap[k]?
 drawn:w.drawn≤w'.drawn
structure BelowD (B:Nat) (w w':World):Prop extends RowKit.Below B w w' where
 drawn:w.drawn≤w'.drawn
def Names.le (σ σ':Names):Prop:=∀o v,σ o=some v→σ' o=some v
theorem Names.le_refl (σ:Names):σ.le σ:=fun _ _ h=>h
inductive RepS (σ:Names) (m:Mem):SV D→Value→Prop
 |d {x:D} {v:Value} (h:RepD m x v):RepS σ m (.d x) v
 |nil:RepS σ m .nil (.slice none 0 0)
 |agg {cs:List (SV D)} {arr:Array Value} (hsz:arr.size=cs.length) (hv:∀(i:Nat) c v,cs[i]? =some c→arr[i]? =some v→RepS σ m c v):RepS σ m (.agg cs) (.agg arr)
 |tup {cs:List (SV D)} {arr:Array Value} (hsz:arr.size=cs.length) (hv:∀(i:Nat) c v,cs[i]? =some c→arr[i]? =some v→RepS σ m c v):RepS σ m (.tup cs) (.tuple arr)
 |elt {xs:List (List D)} {x:List D} {k:IntKind} {n:Int} {b base off:Nat} {arr:Array Value} {t:TypeId} {fz:Nat×Nat} (h0:0≤n) (hx:xs[n.toNat]? =some x)
     (hm:m b=some (.cells arr t fz)) (hsz:base+x.length≤arr.size) (hv:∀(j:Nat) d v,x[j]? =some d→arr[base+j]? =some v→RepD m d v):RepS σ m (.elt (.slice xs) (.int k n) off) (.pointer (some ⟨b,base+off,none⟩))
 |ptr {o off b:Nat} (h:σ o=some (.pointer (some ⟨b,0,none⟩))):RepS σ m (.ptr o off) (.pointer (some ⟨b,off,none⟩))
 |oelt {o e off b n c:Nat} {k:IntKind} {i:Int} (h0:0≤i) (hn:i.toNat < n) (h:σ o=some (.slice (some ⟨b,0,none⟩) n c)):RepS σ m (.oelt o (.int k i) e off) (.pointer (some ⟨b,i.toNat * e+off,none⟩))
 |bnd {f:FuncId} {o b:Nat} (h:σ o=some (.pointer (some ⟨b,0,none⟩))):RepS σ m (.bnd f o) (.func (.func f) #[.pointer (some ⟨b,0,none⟩)] #[])
 |bptr {o n b:Nat} {k:IntKind} {i:Int} (h0:0≤i) (hn:i.toNat < n) (h:σ o=some (.pointer (some ⟨b,0,none⟩))):RepS σ m (.bptr o (.int k i) n) (.pointer (some ⟨b,i.toNat,none⟩))
 |own {o:Nat} {v:Value} (h:σ o=some v):RepS σ m (.own o) v
 |clo {f:FuncId} {cs:List (SV D)} {arr:Array Value} (hsz:arr.size=cs.length) (hv:∀(i:Nat) c v,cs[i]? =some c→arr[i]? =some v→RepS σ m c v):RepS σ m (.clo f cs) (.func (.func f) #[] arr)
 |grd {c:D} {s:SV D} {v:Value} (h:c=.bool true→RepS σ m s v) (hu:c≠.bool true→v=undef):RepS σ m (.grd c s) v
 |any {v:Value}:RepS σ m .any v
theorem RepS.mono {σ σ':Names} {m m':Mem} (hn:σ.le σ') (h:m.le m') {s:SV D} {v:Value} (r:RepS σ m s v):RepS σ' m' s v:=by
 induction r with
 |d hd=>exact .d (hd.mono h)
 |nil=>exact .nil
 |agg hsz _ ih=>exact .agg hsz ih
 |tup hsz _ ih=>exact .tup hsz ih
 |elt h0 hx hm hsz hv=>exact .elt h0 hx (h _ _ hm) hsz fun j d v a b=>(hv j d v a b).mono h
 |ptr hp=>exact .ptr (hn _ _ hp)
 |bnd hp=>exact .bnd (hn _ _ hp)
 |bptr h0 hl hp=>exact .bptr h0 hl (hn _ _ hp)
 |oelt h0 hi hp=>exact .oelt h0 hi (hn _ _ hp)
 |own ho=>exact .own (hn _ _ ho)
 |clo hsz _ ih=>exact .clo hsz ih
 |grd _ hu ih=>exact .grd ih hu
 |any=>exact .any
def blk:Value→Option Nat
 | .pointer (some a)=>some a.block
 | .slice (some a) _ c=>if c=0 then none else some a.block
 | .map (some r)=>some r
 |_=>none
theorem Zn (a:Option Addr) (n:Nat):blk (.slice a n 0)=none:=by cases a <;> simp [blk]
theorem Z9 {b off n c:Nat} (h:0 < c):blk (.slice (some ⟨b,off,none⟩) n c)=some b:=by
 simp only [blk];rw [if_neg (by omega)]
structure MapR (m:Mem) (xs:List (List D)) (es:Array MapEntry):Prop where
 sz:es.size=xs.length
 row:∀(i:Nat) x e,xs[i]? =some x→es[i]? =some e→∃k v,x=[k,v]∧RepD m k e.key∧RepD m v e.val
 nd:∀(i j:Nat) x y,xs[i]? =some x→xs[j]? =some y→D.same (x.headD (.bool false)) (y.headD (.bool false))=true→i=j
theorem MapR.mono {m m':Mem} (h:m.le m') {xs:List (List D)} {es:Array MapEntry} (r:MapR m xs es):MapR m' xs es:=
 ⟨r.sz,fun i x e h1 h2=>by
   obtain⟨k,v,e1,e2,e3⟩:=r.row i x e h1 h2;exact⟨k,v,e1,e2.mono h,e3.mono h⟩,r.nd⟩
theorem MapR.rep {m:Mem} {xs:List (List D)} {es:Array MapEntry} (r:MapR m xs es) {b clock:Nat} (hm:m b=some (.map es clock)):RepD m (.mp xs) (.map (some b)):=by
 refine .mp xs b clock es hm r.sz (fun x hx=>?_) r.nd (fun i x d e h1 h2 h3=>?_) (fun i x d e h1 h2 h3=>?_)
 · obtain⟨i,hi⟩:=List.mem_iff_getElem?.1 hx;have hlt:i < es.size:=by have:=(List.getElem?_eq_some_iff.1 hi).1;have:=r.sz;omega
   obtain⟨k,v,rfl,_,_⟩:=r.row i x es[i] hi (Array.getElem?_eq_getElem hlt);rfl
 · obtain⟨k,v,rfl,a,_⟩:=r.row i x e h1 h3;simp at h2;subst h2;exact a
 · obtain⟨k,v,rfl,_,a⟩:=r.row i x e h1 h3;simp at h2;subst h2;exact a
theorem RepD.mp_inv {m:Mem} {xs:List (List D)} {v:Value} (h:RepD m (.mp xs) v):∃b es clock,v=.map (some b)∧m b=some (.map es clock)∧MapR m xs es:=by
 cases h with
 |mp _ b clock es hm hsz he nd hk hv=>
 refine⟨b,es,clock,rfl,hm,hsz,fun i x e h1 h2=>?_,nd⟩;have:=he x (List.mem_of_getElem? h1)
 match x,this with
 | [k,v],_=>exact⟨k,v,rfl,hk i _ k e h1 rfl h2,hv i _ v e h1 rfl h2⟩
def Z2z (a:Option Addr) (l h c e:Nat):Value:=.slice (if c=l then a else a.map (·.add (l * e))) (h - l) (c - l)
inductive RepO (σ:Names) (m:Mem) (w:World) (o:Nat):OV D→Prop
 |box {cs:List (SV D)} {b:Nat} {arr:Array Value} {t:TypeId} (hs:σ o=some (.pointer (some ⟨b,0,none⟩))) (hb:w.heap[b]? =some (.cells arr t (0,0))) (hsz:arr.size=cs.length)
     (hv:∀(i:Nat) c v,cs[i]? =some c→arr[i]? =some v→RepS σ m c v):RepO σ m w o (.box cs)
 |none {e:Nat} {a:Option Addr} (hs:σ o=some (.slice a 0 0)):RepO σ m w o (.arr e (.slice []))
 |arr {e:Nat} {xs:List (List D)} {b c:Nat} {arr:Array Value} {t:TypeId} (hs:σ o=some (.slice (some ⟨b,0,none⟩) xs.length c)) (hb:w.heap[b]? =some (.cells arr t (0,0)))
     (h0:0 < c) (hc:xs.length≤c) (hcc:c≤maxLen) (hcap:xs.length≤cap) (hsz:arr.size=c * e) (he:∀x∈xs,x.length=e)
     (hv:∀(i j:Nat) x d v,xs[i]? =some x→x[j]? =some d→arr[i * e+j]? =some v→RepD m d v):RepO σ m w o (.arr e (.slice xs))
 |fbox {cs:List D} {b:Nat} (hs:σ o=some (.pointer (some ⟨b,0,none⟩))) (h:RepD m (.ptr cs) (.pointer (some ⟨b,0,none⟩))):RepO σ m w o (.fbox cs)
 |farr {x:D} {v:Value} (hs:σ o=some v) (h:RepD m x v):RepO σ m w o (.farr x)
 |mp {xs:List (List D)} {b clock:Nat} {es:Array MapEntry} (hs:σ o=some (.map (some b))) (hb:w.heap[b]? =some (.map es clock)) (h:MapR m xs es):RepO σ m w o (.mp (.slice xs))
 |view {q e l h n c:Nat} {ad:Option Addr} (hq:σ q=some (.slice ad n c)) (hs:σ o=some (Z2z ad l h c e)) (h1:l≤h) (h2:h≤n) (h3:n≤c):RepO σ m w o (.view q e (.int .i64 (l:Nat)) (.int .i64 (h:Nat)))
 |yld {l:Nat} (hs:σ o=some (.func (.yield l) #[] #[])):RepO σ m w o .yld
 |sav {cs:List (SV D)} {arr:Array Value} (hs:σ o=some (.tuple arr)) (hsz:arr.size=cs.length) (hv:∀(i:Nat) c v,cs[i]? =some c→arr[i]? =some v→RepS σ m c v):RepO σ m w o (.sav cs)
 |dead:RepO σ m w o .dead
def OV.alive {L:Type}:OV L→Bool
 | .dead=>false
 | .yld=>false
 | .sav _=>false
 | .view ..=>false
 | .fbox _=>false
 | .farr _=>false
 |_=>true
structure YS where
 on:Bool
 l:Nat
 exp:List (List D)
 J:Option Nat→(Nat→Prop)→Mem→World→Prop
def YS.off:YS:=⟨false,0,[],fun _ _ _ _=>True⟩
structure Base where
 w0:World
 m0:Mem
 mine:Nat→Prop
 own:Nat→Prop               -- an iterator's blocks,as those know them who range over it
structure Env extends Base where
 P:Program
 r:Option Nat
 sav:Array Value
 Y:YS
def Env.re (E:Env) (B:Base):Env:= {E with toBase:=B}
structure Env.To (E:Env) (B:Base):Prop where
 off:E.Y.on=false→B=E.toBase
 size:E.w0.heap.size≤B.w0.heap.size
 os:B.w0.os=E.w0.os
 tape:B.w0.tape=E.w0.tape
 output:B.w0.output=E.w0.output
 drawn:E.w0.drawn≤B.w0.drawn
 le:Mem.le E.m0 B.m0
 mine:∀b,b < E.w0.heap.size→B.mine b→E.mine b
 own:∀b,E.own b→B.own b
 keep:∀b,b < E.w0.heap.size→E.own b→¬E.mine b→B.w0.heap[b]? =E.w0.heap[b]?∧B.m0 b=E.m0 b
def mark (D:Nat):Deferred:= {target:=.collected D,args:= #[]}
def Marks (E:Env) (m:Mem) (ds:List Deferred) (w:World):Prop:=
 ∃Ds:List Nat,ds=Ds.map mark∧Ds.Nodup∧∀D∈Ds,w.heap[D]? =some (Obj.deferred (some []))∧m D=none∧(E.w0.heap.size≤D∨E.mine D)
theorem Marks.nil (E:Env) (m:Mem) (w:World):Marks E m [] w:=⟨[],rfl,List.nodup_nil,by simp⟩
theorem Marks.keep {E:Env} {m m':Mem} {ds:List Deferred} {w w':World} (h:Marks E m ds w) (hw:∀D:Nat,w.heap[D]? =some (Obj.deferred (some []))→w'.heap[D]? =some (Obj.deferred (some [])))
   (hm:∀D:Nat,w.heap[D]? =some (Obj.deferred (some []))→m D=none→m' D=none):Marks E m' ds w':=by
 obtain⟨Ds,h1,h2,h3⟩:=h;exact⟨Ds,h1,h2,fun D hD=>⟨hw D (h3 D hD).1,hm D (h3 D hD).1 (h3 D hD).2.1,(h3 D hD).2.2⟩⟩
structure Fits (E:Env) (σ:Names) (m:Mem) (st:St D) (a:Act) (w:World):Prop where
 sz:a.tmps.size=st.tmps.length
 tm:∀(i:Nat) s v,st.tmps[i]? =some s→a.tmps[i]? =some v→RepS σ m s v
 dfr:Marks E m a.defers w
 yld:∀(o:Nat),st.objs[o]? =some .yld→σ o=some (.func (.yield E.Y.l) #[] #[])
 sav:∀(o:Nat) cs,st.objs[o]? =some (.sav cs)→σ o=some (.tuple E.sav)
 mem:MemOk m w
 le:E.m0.le m
 objs:∀(o:Nat) ov,st.objs[o]? =some ov→RepO σ m w o ov
 sep:∀(o:Nat) ov b,st.objs[o]? =some ov→ov.alive=true→(σ o).bind blk=some b→m b=none∧(E.w0.heap.size≤b∨E.mine b)
 inj:∀(o o':Nat) ov ov' b,st.objs[o]? =some ov→st.objs[o']? =some ov'→ov.alive=true→ov'.alive=true→(σ o).bind blk=some b→(σ o').bind blk=some b→o=o'
 dom:∀(o:Nat) v,σ o=some v→o < st.objs.length
 grow:E.w0.heap.size≤w.heap.size
 keep:∀b,b < E.w0.heap.size→¬E.mine b→w.heap[b]? =E.w0.heap[b]?
 old:∀b,b < E.w0.heap.size→¬E.mine b→m b=E.m0 b
 os:w.os=E.w0.os
 tape:w.tape=E.w0.tape
 output:w.output=E.w0.output
 drawn:E.w0.drawn≤w.drawn
structure TK where
 t:T
 k:K
 deriving Inhabited,Repr
def TK.beq (a b:TK):Bool:=T.beq a.t b.t&&K.beq a.k b.k
theorem TK.eq_of_beq {a b:TK} (h:a.beq b=true):a=b:=by
 cases a;cases b;simp [TK.beq]at h;rw [T.eq_of_beq h.1,K.eq_of_beq h.2]
mutual
def SV.beq:SV TK→SV TK→Bool
 | .d a,.d b=>a.beq b
 | .nil,.nil=>true
 | .agg a,.agg b=>SV.beqL a b
 | .tup a,.tup b=>SV.beqL a b
 | .elt s i n,.elt s' i' n'=>s.beq s'&&i.beq i'&&decide (n=n')
 | .ptr o n,.ptr o' n'=>decide (o=o')&&decide (n=n')
 | .oelt o i e n,.oelt o' i' e' n'=>decide (o=o')&&i.beq i'&&decide (e=e')&&decide (n=n')
 | .bnd f o,.bnd f' o'=>decide (f=f')&&decide (o=o')
 | .bptr o i n,.bptr o' i' n'=>decide (o=o')&&i.beq i'&&decide (n=n')
 | .own o,.own o'=>decide (o=o')
 | .clo f a,.clo g b=>decide (f=g)&&SV.beqL a b
 | .grd c a,.grd c' b=>c.beq c'&&SV.beq a b
 | .any,.any=>true
 |_,_=>false
def SV.beqL:List (SV TK)→List (SV TK)→Bool
 | [],[]=>true
 |a::l,b::r=>SV.beq a b&&SV.beqL l r
 |_,_=>false
end
mutual
theorem SV.eq_of_beq:∀ {a b:SV TK},SV.beq a b=true→a=b
 | .d a,b,h=>by cases b <;> simp [SV.beq]at h;rw [TK.eq_of_beq h]
 | .nil,b,h=>by cases b <;> simp_all [SV.beq]
 | .agg a,b,h=>by cases b <;> simp [SV.beq]at h;rw [SV.eq_of_beqL h]
 | .tup a,b,h=>by cases b <;> simp [SV.beq]at h;rw [SV.eq_of_beqL h]
 | .elt s i n,b,h=>by cases b <;> simp [SV.beq]at h;rw [TK.eq_of_beq h.1.1,TK.eq_of_beq h.1.2,h.2]
 | .ptr o n,b,h=>by cases b <;> simp_all [SV.beq]
 | .oelt o i e n,b,h=>by cases b <;> simp [SV.beq]at h;rw [h.1.1.1,TK.eq_of_beq h.1.1.2,h.1.2,h.2]
 | .bnd f o,b,h=>by cases b <;> simp_all [SV.beq]
 | .bptr o i n,b,h=>by cases b <;> simp [SV.beq]at h;rw [h.1.1,TK.eq_of_beq h.1.2,h.2]
 | .own o,b,h=>by cases b <;> simp_all [SV.beq]
 | .clo f a,b,h=>by cases b <;> simp [SV.beq]at h;rw [h.1,SV.eq_of_beqL h.2]
 | .grd c a,b,h=>by cases b <;> simp [SV.beq]at h;rw [TK.eq_of_beq h.1,SV.eq_of_beq h.2]
 | .any,b,h=>by cases b <;> simp_all [SV.beq]
theorem SV.eq_of_beqL:∀ {a b:List (SV TK)},SV.beqL a b=true→a=b
 | [],b,h=>by cases b <;> simp_all [SV.beqL]
 | a ::l,b,h=>by
   cases b with
   |nil=>simp [SV.beqL]at h
   | cons b r=>
     simp [SV.beqL]at h;rw [SV.eq_of_beq h.1,SV.eq_of_beqL h.2]
end
inductive RK where
 |cell (k:K)|agg (ks:List K)|own (ks:List K)|box (ks:List K)|any
 deriving Inhabited,Repr
def RK.kinds:RK→List K
 | .cell k=>[k]
 | .agg ks=>ks
 | .own ks=>[.slice ks]
 | .box ks=>ks
 | .any=>[]
def RK.all (ks:List RK):List K:=(ks.map RK.kinds).flatten
inductive RV where
 |d (x:D)|own (e:Nat) (xs:List (List D))|box (cs:List D)|any
def RV.cells:RK→RV→Option (List D)
 | .cell _,.d x=>some [x]
 | .cell _,.own _ xs=>some [.slice xs]
 | .agg ks,.d (.agg cs)=>if cs.length=ks.length then some cs else none
 | .own ks,.own e xs=>if e=ks.length then some [.slice xs]else none
 | .box ks,.box cs=>if cs.length=ks.length then some cs else none
 | .any,.any=>some []
 |_,_=>none
def RV.all:List RK→List RV→Option (List D)
 | [],[]=>some []
 | k::ks,v::vs=>match v.cells k,RV.all ks vs with
   |some a,some b=>some (a++b)
   |_,_=>none
 |_,_=>none
inductive RT where
 |d (t:T)|own (e:Nat) (t:T)|box (t:T)
 deriving Inhabited,Repr
def RT.den (ρ:List D):RT→RV
 | .d t=>.d (Sx.den ρ t)
 | .own e t=>match Sx.den ρ t with| .slice xs=>.own e xs|_=>.own e []
 | .box t=>.box (Sx.den ρ t).list
inductive XExit where
 |norm|exit (id:Nat)|ret
 deriving Inhabited,Repr,DecidableEq
structure XS where
 st:St TK
 nv:Nat
 nl:Nat
 deriving Inhabited,Repr
inductive Fv where
 |fn (f:FuncId)|val (t:T)
 deriving Inhabited,Repr
inductive PK where
 |cell (k:K)|agg (ks:List K)|own (ks:List K)|box (ks:List K)|any
 deriving Inhabited,Repr
def PK.kinds:PK→List K
 | .cell k=>[k]
 | .agg ks=>ks
 | .own ks=>[.slice ks]
 | .box ks=>ks
 | .any=>[]
inductive R where
 |fail (why:String)
 |need (t:T) (r:R)
 |fact (t:T) (r:R)
 |ite (t:T) (a b:R)
 |lets (ts:List T) (r:R)
 |call (g:Option T) (f:Fv) (args:List T) (res:List RK) (r:R)
 |loop (lvl:Nat) (inits:List T) (ks:List K) (body:R)
 |again (lvl:Nat) (ts:List T)
 |leaf (e:XExit) (xs:XS)
 |ret (rs:List RT)
 |callX (upd:Bool) (f:FuncId) (args:List RT) (res:List RK) (r:R)
 |mix (f:FuncId) (sz:List Nat) (sh:List (Nat×Option Nat)) (r:R)   -- a function that only lays cells of its arguments together
 |yield (args:List T) (r:R)
 |guess (t:T) (r:R)                -- a Bool of which no more is known than this,where it is true
 |iter (lvl:Nat) (t:T) (inits:List T) (ks:List K) (pk:List PK) (body done:R)
 |join (lvl:Nat) (ks:List K) (body cont:R)   -- ways that meet again
 deriving Inhabited,Repr
def R.bind:R→(XExit→XS→R)→R
 | .fail s,_=>.fail s
 | .need t r,k=>.need t (r.bind k)
 | .fact t r,k=>.fact t (r.bind k)
 | .ite t a b,k=>.ite t (a.bind k) (b.bind k)
 | .lets ts r,k=>.lets ts (r.bind k)
 | .call g f args res r,k=>.call g f args res (r.bind k)
 | .loop l i ks b,k=>.loop l i ks (b.bind k)
 | .again l ts,_=>.again l ts
 | .leaf e xs,k=>k e xs
 | .ret rs,_=>.ret rs
 | .callX u f args res r,k=>.callX u f args res (r.bind k)
 | .mix f sz sh r,k=>.mix f sz sh (r.bind k)
 | .yield args r,k=>.yield args (r.bind k)
 | .guess t r,k=>.guess t (r.bind k)
 | .iter l t i ks pk b d,k=>.iter l t i ks pk (b.bind k) (d.bind k)
 | .join l ks b c,k=>.join l ks (b.bind k) (c.bind k)
def R.needs:List T→R→R
 | [],r=>r
 |t::ts,r=>.need t (R.needs ts r)
def R.facts:List T→R→R
 | [],r=>r
 |t::ts,r=>.fact t (R.facts ts r)
def oneK (P:Program) (t:TypeId) (ks:List K):Option K:=match P.underlying t with
 |some (.struct _)|some (.array ..)=>some (.agg ks)
 |_=>match ks with| [k]=>some k|_=>none
def Y8 (P:Program):Nat→TypeId→Option (List K)
 |0,_=>none
 | n +1,t=>match P.underlying t with
   |some (.int k)=>some [.int k]
   |some .bool=>some [.bool]
   |some .string=>some [.str]
   |some (.slice e)=>(Y8 P n e).map fun ks=>[.slice ks]
   |some (.struct fs)=>(fs.toList.mapM fun f=>Y8 P n f.type).map List.flatten
   |some (.array m e)=>(Y8 P n e).map fun ks=>(List.replicate m ks).flatten
   |some (.func ..)=>some [.fn]
   |some (.pointer e)=>(Y8 P n e).map fun ks=>[.ptr ks]
   | some (.map kt et)=>match(Y8 P n kt).bind (oneK P kt),(Y8 P n et).bind (oneK P et)with
     |some a,some b=>some [.mp [a,b]]
     |_,_=>none
   |_=>none
def Wk:Nat:=12
def Z2p (P:Program) (t:TypeId):Bool:=match P.underlying t with|some (.struct _)|some (.array ..)=>true|_=>false
def allD:List (SV TK)→Option (List TK)
 | []=>some []
 | .d x::vs=>match allD vs with
   |some xs=>some (x::xs)
   |none=>none
 |_::_=>none
def Z2y (k:IntKind) (i:T) (v:TK):Nat→List TK→List (SV TK)
 |_,[]=>[]
 |j,y::ys=>.d ⟨.ite (.o2 .eq i (.int k j)) v.t y.t,v.k⟩::Z2y k i v (j+1) ys
def YN (P:Program) (t:TypeId):Option Bool:=match P.underlying t with
 |some (.struct _)|some (.array ..)=>some true
 |some _=>some false
 |none=>none
def K.flat:K→Bool
 | .agg _=>false
 |_=>true
def rkOf (P:Program) (t:TypeId):Option RK:=match Y8 P Wk t with
 |some ks=>if Z2p P t then some (.agg ks)else match ks with| [k]=>some (.cell k)|_=>none
 |none=>none
def T.list:List T→T
 | []=>.lnil
 |t::ts=>.lcons t (T.list ts)
def T.imp (c t:T):T:=.ite c t (.bool true)
def T.notB (t:T):T:=.o1 .not t
def Z7B (k:IntKind) (n:Int):Bool:=decide (k.min≤n)&&decide (n≤k.max)
def Z1W:Value→SV TK
 | .int k n=>if Z7B k n then .d ⟨.int k n,.int k⟩else .any
 | .bool b=>.d ⟨.bool b,.bool⟩
 | .string s=>if s.data.toList.length≤cap then .d ⟨.str s.data.toList,.str⟩else .any
 | .slice none 0 0=>.nil
 |_=>.any
def look (st:St TK):Operand→SV TK
 | .tmp t=>st.tmps.getD t .any
 | .const v=>Z1W v
 | .global _=>.any
 | .func f=>.d ⟨.fn f,.fn⟩
def asT (objs:List (OV TK)) (k:K):SV TK→Option T
 | .d x=>if K.beq x.k k then some x.t else none
 | .own o=>match objs[o]? with
   |some (.farr x)=>if K.beq x.k k then some x.t else none
   |_=>none
 | .nil=>match k with| .slice _=>some .nils|_=>none
 | .ptr o off=>match objs[o]?,k with
   |some (.fbox cs),.ptr ks=>if K.beqL (cs.map (·.k)) ks&&off==0 then some (.ptr (T.list (cs.map (·.t))))else none
   |_,_=>none
 |_=>none
def cellsOf:SV TK→List (SV TK)
 | .agg cs=>cs
 |v=>[v]
def ZS (g:Option T) (c:T) (v:SV TK):SV TK:=match v with
 | .grd c' w=>if T.beq c'.t c then w else match g with
   |some g=>if T.beq c'.t (.o2 .band g c)then w else v
   |none=>v
 |v=>v
def Y4 (g:Option T) (v:SV TK):SV TK:=match g,v with
 |some g,.grd c w=>if T.beq c.t g then w else v
 |_,v=>v
structure Sym where
 needs:List T
 facts:List T
 v:SV TK
 objs:Option (List (OV TK))
def Zfo (op:BinOp) (k:IntKind) (a b:T):Option (List T×TK):=
 let r (o:O2):Option (List T×TK):=some ([],⟨.o2 o a b,.int k⟩)
 let c (o:O2):Option (List T×TK):=some ([],⟨.o2 o a b,.bool⟩)
 match op with
 | .add=>r (.add k)| .sub=>r (.sub k)| .mul=>r (.mul k)
 | .quo=>some ([.o2 .ne b (.int k 0)],⟨.o2 (.quo k) a b,.int k⟩)
 | .rem=>some ([.o2 .ne b (.int k 0)],⟨.o2 (.rem k) a b,.int k⟩)
 | .and=>r (.and k)| .or=>r (.or k)| .xor=>r (.xor k)| .andNot=>r (.andNot k)
 | .lss=>c .lt| .leq=>c .le| .gtr=>c .gt| .geq=>c .ge| .eql=>c .eq| .neq=>c .ne
 |_=>none
def ZeY (op:BinOp) (a b:T):Option (List T×TK):=
 let c (o:O2):Option (List T×TK):=some ([],⟨.o2 o a b,.bool⟩)
 match op with
 | .add=>some ([.o2 .le (.o1 .len (.o2 .scat a b)) (.int .i64 cap)],⟨.o2 .scat a b,.str⟩)
 | .lss=>c .lt| .leq=>c .le| .gtr=>c .gt| .geq=>c .ge| .eql=>c .eq| .neq=>c .ne
 |_=>none
def Z0e (P:Program) (f:TypeId→List (SV TK)→List (SV TK)→Option T) (xs ys:List (SV TK)):List Field→Option T
 | []=>some (.bool true)
 | fd::fs=>if fd.name== "_" ||decide (xs.length < fd.offset+P.cellsOf fd.type)||decide (ys.length < fd.offset+P.cellsOf fd.type)then none else
   match f fd.type ((xs.drop fd.offset).take (P.cellsOf fd.type)) ((ys.drop fd.offset).take (P.cellsOf fd.type)),Z0e P f xs ys fs with
   |some e,some es=>some (.o2 .band e es)
   |_,_=>none
def Z4U (P:Program):Nat→TypeId→List (SV TK)→List (SV TK)→Option T
 |0,_,_,_=>none
 | n +1,t,xs,ys=>match P.underlying t with
   | some (.int _)=>match xs,ys with
     | [.d ⟨a,.int k⟩],[.d ⟨b,.int k'⟩]=>if k=k' then some (.o2 .eq a b)else none
     |_,_=>none
   | some .bool=>match xs,ys with
     | [.d ⟨a,.bool⟩],[.d ⟨b,.bool⟩]=>some (.o2 .eq a b)
     |_,_=>none
   | some .string=>match xs,ys with
     | [.d ⟨a,.str⟩],[.d ⟨b,.str⟩]=>some (.o2 .eq a b)
     |_,_=>none
   |some (.struct fs)=>if P.stoodInHeld t then none else Z0e P (Z4U P n) xs ys fs.toList
   |_=>none
def Zy {L:Type} (l:List L) (i:Nat) (x:L):List L:=l.set i x
def Z52 (k:Nat→K) (s i:T) (j n:Nat):List TK:=(List.range n).map fun q=>⟨.idx s i (j+q) (k (j+q)),k (j+q)⟩
def Yq (agg:Option Bool) (cs:List (SV TK)):Option (SV TK):=match agg with
 |none=>none
 |some true=>some (.agg cs)
 |some false=>match cs with| [c]=>some c|_=>none
def allT (objs:List (OV TK)):List K→List (SV TK)→Option (List T)
 | [],[]=>some []
 | k::ks,v::vs=>match asT objs k v,allT objs ks vs with
   |some t,some ts=>some (t::ts)
   |_,_=>none
 |_,_=>none
def capT:T:=.int .i64 cap
def Za3:K→Option (List K)
 | .slice ks=>some ks
 |_=>none
def thaw (objs:List (OV TK)):SV TK→SV TK
 | .own o=>match objs[o]? with
   |some (.farr x)=>.d x
   |_=>.own o
 |v=>v
def Z4K (objs:List (OV TK)):SV TK→Bool
 | .d x=>x.k.flat
 | .nil| .ptr ..| .elt ..| .oelt ..| .clo ..=>true
 | .own o=>match objs[o]? with
   |some (.arr ..)|some .yld|some (.mp _)=>true
   |_=>false
 |_=>false
def ZaN (objs:List (OV TK)):SV TK→Bool
 | .agg _=>true
 |v=>Z4K objs v
def srcT (objs:List (OV TK)) (ks:List K) (v:SV TK):Option T:=match v with
 | .own ob=>match objs[ob]? with
   |some (.arr e' z)=>if e'==ks.length&&K.beq z.k (.slice ks)then some z.t else none
   |_=>none
 |v=>asT objs (.slice ks) v
def Z2g:TypeDesc→Option K
 | .int k=>some (.int k)
 | .bool=>some .bool
 | .string=>some .str
 |_=>none
def Jv (P:Program):Nat→List Field→Option (List K)
 |_,[]=>some []
 | i,f::fs=>match(P.underlying f.type).bind Z2g,Jv P (i+1) fs with
   |some k,some ks=>if f.offset==i&&P.cellsOf f.type==1&&f.name != "_" then some (k::ks)else none
   |_,_=>none
def keyK (P:Program) (t:TypeId):Option K:=match P.underlying t with
 | some (.struct fs)=>match Jv P 0 fs.toList with
   |some ks=>if P.keyType t&&P.keyTypeAt 2 t&&P.tiled 2 t&&P.cellsOf t==ks.length then some (.agg ks)else none
   |none=>none
 |some d=>Z2g d
 |none=>none
def Z7O (objs:List (OV TK)) (k:K) (v:SV TK):Option T:=match k,v with
 | .agg ks,.agg cs=>(allT objs ks cs).map T.list
 | .agg _,_=>none
 |k,v=>asT objs k v
def zeroT (P:Program) (t:TypeId) (k:K):Option T:=match(P.info? t).bind (·.zero)with
 | some z=>match k,z with
   | .agg ks,.agg cs=>match zeroCs ks cs.toList with
     |some ts=>some (T.list ts)
     |none=>none
   | .agg _,_=>none
   |k,z=>zeroC k z
 |none=>none
where
 zeroC (k:K) (v:Value):Option T:=match Z1W v with
   | .d x=>if K.beq x.k k then some x.t else none
   | .nil=>match k with| .slice _=>some .nils|_=>none
   |_=>none
 zeroCs:List K→List Value→Option (List T)
   | [],[]=>some []
   | k::ks,v::vs=>match zeroC k v,zeroCs ks vs with
     |some t,some ts=>some (t::ts)
     |_,_=>none
   |_,_=>none
def Z1j (c s f z:T):K→SV TK
 | .agg ks=>.agg ((List.range ks.length).map fun(j:Nat)=>.d ⟨.sel (.ite c (.idx s f 1 (.agg ks)) z) (.int .i64 (j:Nat)) (ks.getD j .bool),ks.getD j .bool⟩)
 |k=>.d ⟨.ite c (.idx s f 1 k) z,k⟩
def Z8g:RK→Option K
 | .cell k=>some k
 | .agg ks=>if ks.all K.flat then some (.agg ks)else none
 |_=>none
def Z2H (objs:List (OV TK)) (ob:Nat):Option (Nat×Nat×TK×T):=match objs[ob]? with
 |some (.arr e z)=>some (ob,e,z,.o1 .len z.t)
 | some (.view q e ⟨.int .i64 0,.int .i64⟩ ⟨h,.int .i64⟩)=>match objs[q]? with
   |some (.arr e' z)=>if e'==e then some (q,e,z,h)else none
   |_=>none
 |_=>none
def Z0j:Option (SV TK)→T→Option T
 |none,d=>some d
 |some (.d ⟨t,.int .i64⟩),_=>some t
 |_,_=>none
def Jx (z lo mid hi:T):T:=.o2 .app (.o2 .app (.sub z (.int .i64 0) lo) mid) (.sub z hi (.o1 .len z))
def sxOp (P : Program) (g:Option T) (st:St TK) (o:Oper):Option Sym:=
 let L:=fun x=>thaw st.objs (Y4 g (look st x))
 let ret (v:SV TK):Option Sym:=some ⟨[],[],v,none⟩
 match o.op with
 | .move x| .assign x=>ret (L x)
 | .pick c a b=>
   match L c with
   | .d ⟨tc,.bool⟩=>
     let a:=ZS g tc (L a)
     let b:=ZS g (T.notB tc) (L b)
     match a,b with
     | .d x,.d y=>if K.beq x.k y.k then ret (.d ⟨.ite tc x.t y.t,x.k⟩)else none
     |_,_=>none
   |_=>none
 | .alloc t=>match Y8 P Wk t,(P.info? t).bind (·.zero)with
   | some ks,some z=>match zeroCells ks z.cells.toList with
     |some cs=>some ⟨[],[],.ptr st.objs.length 0,some (st.objs++[.box cs])⟩
     |none=>none
   |_,_=>none
 | .box _ x=>match L x with
   | .agg cs=>some ⟨[],[],.ptr st.objs.length 0,some (st.objs++[.box cs])⟩
   |v=>if Z4K st.objs v then some ⟨[],[],.ptr st.objs.length 0,some (st.objs++[.box [v]])⟩else none
 | .build t parts=>match Y8 P Wk t,(P.info? t).bind (·.zero),P.underlying t with
   | some ks,some z,some (.struct fs)=>match zeroCells ks z.cells.toList with
     | some cs=>if fs.toList.all fun f=>(P.info? f.type).isSome then match fillParts st.objs (fun i=>(fs[i]?).map fun f=>(f.offset,P.cellsOf f.type)) cs (parts.toList.map fun(i,x)=>(i,L x))with
       |some cs=>ret (.agg cs)
       |none=>none
       else none
     |none=>none
   | some ks,some z,some (.array _ e)=>match zeroCells ks z.cells.toList with
     | some cs=>if(P.info? e).isSome then match fillParts st.objs (fun i=>some (i * P.cellsOf e,P.cellsOf e)) cs (parts.toList.map fun(i,x)=>(i,L x))with
       |some cs=>ret (.agg cs)
       |none=>none
       else none
     |none=>none
   |_,_,_=>none
 | .buildSlice t n parts=>match P.underlying t with
   | some (.slice e)=>match Y8 P Wk e,P.info? e with
     | some ks,some info=>
       if info.size==ks.length&&ks.all K.flat&&decide (parts.toList.map (·.1)=List.range n)&&decide (n * info.size≤2 ^ 24)&&decide (n≤cap)&&info.zero.isSome then
         match pushAll st.objs ks .nils (parts.toList.map fun p=>L p.2)with
         |some t=>some ⟨[],[],.own st.objs.length,some (st.objs++[.arr ks.length ⟨t,.slice ks⟩])⟩
         |none=>none
       else none
     |_,_=>none
   |_=>none
 | .makeSlice t l c=>match P.underlying t,L l,L c with
   | some (.slice e),.d ⟨lt,.int k⟩,.d ⟨ct,.int _⟩=>match Y8 P Wk e,P.info? e with
     | some ks,some info=>match info.zero with
       | some z=>match zeroCells ks z.cells.toList with
         | some cs=>match allT [] ks cs with
           | some ts=>if info.size==ks.length&&z.cells.size==ks.length&&ks.all K.flat then
               some ⟨[.o2 .le (.int k 0) lt,.o2 .le lt ct,.o2 .le ct (.int .i64 (if info.bytes=0 then cap else cap / info.bytes))],[],.own st.objs.length,
                 some (st.objs++[.arr ks.length ⟨.rep lt (T.list ts),.slice ks⟩])⟩
             else none
           |none=>none
         |none=>none
       |none=>none
     |_,_=>none
   |_,_,_=>none
 | .load t x=>
   let n:=P.cellsOf t
   let agg:=YN P t
   match L x with
   | .ptr ob off=>match st.objs[ob]? with
     |some (.box cs)=>if off+n≤cs.length then match Yq agg ((cs.drop off).take n)with|some v=>ret v|none=>none else none
     |some (.fbox cs)=>if off+n≤cs.length then match Yq agg (((cs.drop off).take n).map .d)with|some v=>ret v|none=>none else none
     |_=>none
   | .elt s i off=>match s.k with
     | .slice ks=>if off+n≤ks.length then match Yq agg ((Z52 (fun j=>ks.getD j .bool) s.t i.t off n).map .d)with|some v=>ret v|none=>none else none
     |_=>none
   | .oelt ob i e off=>match st.objs[ob]? with
     | some (.arr e' x)=>match x.k with
       | .slice ks=>if e==e'&&e==ks.length&&off+n≤ks.length then match Yq agg ((Z52 (fun j=>ks.getD j .bool) x.t i.t off n).map .d)with|some v=>ret v|none=>none else none
       |_=>none
     |_=>none
   | .bptr ob i m=>match st.objs[ob]? with
     | some (.box cs)=>match allD cs with
       |some (y::ys)=>if n==1&&agg==some false&&(y::ys).length==m&&(y::ys).all (fun z=>K.beq z.k y.k)then ret (.d ⟨.sel (T.list ((y::ys).map (·.t))) i.t y.k,y.k⟩)else none
       |_=>none
     |_=>none
   | .d ⟨p,.ptr ks⟩=>if n≤ks.length then match Yq agg ((List.range n).map fun j=>.d ⟨.fld p j (ks.getD j .bool),ks.getD j .bool⟩)with|some v=>ret v|none=>none else none
   |_=>none
 | .store t x y=>
   let n:=P.cellsOf t
   let cs:=cellsOf (L y)
   if cs.length==n&&(P.info? t).isSome&&cs.all (Z4K st.objs)then
     match L x with
     | .ptr ob off=>match st.objs[ob]? with
       |some (.box old)=>if off+n≤old.length then some ⟨[],[],.any,some (Zy st.objs ob (.box (old.take off++cs++old.drop (off+n))))⟩else none
       |_=>none
     | .bptr ob i m=>match st.objs[ob]?,cs,i.k with
       | some (.box old),[.d v],.int k=>match allD old with
         |some ys=>if ys.length==m&&ys.all (fun z=>K.beq z.k v.k)then some ⟨[],[],.any,some (Zy st.objs ob (.box (Z2y k i.t v 0 ys)))⟩else none
         |none=>none
       |_,_,_=>none
     | .oelt ob i e off=>match st.objs[ob]? with
       | some (.arr e' x)=>match x.k with
         | .slice ks=>if e==e'&&e==ks.length&&ks.all K.flat&&off+n≤ks.length then match allT st.objs ((ks.drop off).take n) cs with
             |some ts=>some ⟨[],[],.any,some (Zy st.objs ob (.arr e' ⟨.upd x.t i.t off (T.list ts),x.k⟩))⟩
             |none=>none
           else none
         |_=>none
       |_=>none
     |_=>none
   else none
 | .nilCheck x=>match L x with
   | .ptr ob off=>ret (.ptr ob off)
   | .elt s i off=>ret (.elt s i off)
   | .oelt ob i e off=>ret (.oelt ob i e off)
   |_=>none
 | .binOp op t x y _=>
   match L x,L y with
   | .d ⟨a,.int k⟩,.d ⟨b,.int k'⟩=>
     match op with
     | .shl=>some ⟨[.o2 .ge b (.int k' 0)],[],.d ⟨.o2 (.shl k) a b,.int k⟩,none⟩
     | .shr=>some ⟨[.o2 .ge b (.int k' 0)],[],.d ⟨.o2 (.shr k) a b,.int k⟩,none⟩
     |_=>if k=k' then(Zfo op k a b).map fun(ns,v)=>⟨ns,[],.d v,none⟩else none
   | .d ⟨a,.str⟩,.d ⟨b,.str⟩=>(ZeY op a b).map fun(ns,v)=>⟨ns,[],.d v,none⟩
   | .d ⟨a,.bool⟩,.d ⟨b,.bool⟩=>match op,P.underlying t with
     | .eql,some .bool=>ret (.d ⟨.o2 .eq a b,.bool⟩)
     | .neq,some .bool=>ret (.d ⟨.o2 .ne a b,.bool⟩)
     |_,_=>none
   | .agg a,.agg b=>if YN P t==some true&&!P.eqGuardType P.depth t then match Z4U P Wk t a b,op with
       |some e,.eql=>ret (.d ⟨e,.bool⟩)
       |some e,.neq=>ret (.d ⟨T.notB e,.bool⟩)
       |_,_=>none
     else none
   |_,_=>none
 | .unOp op _ x=>match op,L x with
   | .not,.d ⟨a,.bool⟩=>ret (.d ⟨T.notB a,.bool⟩)
   | .neg,.d ⟨a,.int k⟩=>ret (.d ⟨.o1 (.neg k) a,.int k⟩)
   | .xor,.d ⟨a,.int k⟩=>ret (.d ⟨.o1 (.cpl k) a,.int k⟩)
   |_,_=>none
 | .convert s d x=>match P.underlying s,P.underlying d,L x with
   |some (.int _),some (.int k),.d ⟨a,.int _⟩=>ret (.d ⟨.o1 (.conv k) a,.int k⟩)
   |some .string,some .string,.d ⟨a,.str⟩=>ret (.d ⟨a,.str⟩)
   | some .string,some (.slice e),.d ⟨a,.str⟩=>match P.underlying e with
     |some (.int .u8)=>some ⟨[],[],.d ⟨.o1 .bytes a,.slice [.int .u8]⟩,some st.objs⟩
     |_=>none
   |_,_,_=>none
 | .slice t x lo hi mx=>
   if mx.isSome then(match P.underlying t,L x,lo,hi.map L,mx.map L with
     | some (.slice e),.d ⟨_,.slice _⟩,none,some (.d ⟨.int .i64 0,.int .i64⟩),some (.d ⟨.int .i64 0,.int .i64⟩)=>match Y8 P Wk e with
       |some ks=>if(P.info? e).isSome then some ⟨[],[],.own st.objs.length,some (st.objs++[.arr ks.length ⟨.nils,.slice ks⟩])⟩else none
       |none=>none
     | some (.slice e),.nil,none,some (.d ⟨.int .i64 0,.int .i64⟩),some (.d ⟨.int .i64 0,.int .i64⟩)=>match Y8 P Wk e with
       |some ks=>if(P.info? e).isSome then some ⟨[],[],.own st.objs.length,some (st.objs++[.arr ks.length ⟨.nils,.slice ks⟩])⟩else none
       |none=>none
     | some (.slice e),.own ob,some l,some h,some m=>match Z2H st.objs ob with
       | some (_,e',z,_)=>if P.cellsOf e==e'&&(P.info? e).isSome then match Z0j (lo.map L) (.int .i64 0),Z0j (hi.map L) (.int .i64 0),Z0j (mx.map L) (.int .i64 0)with
           |some l,some h,some m=>some ⟨[.o2 .le (.int .i64 0) l,.o2 .le l h,.o2 .le h m,.o2 .le m (.o1 .len z.t)],[],.any,none⟩
           |_,_,_=>none
         else none
       |none=>none
     |_,_,_,_,_=>none)else
   match P.underlying t,L x with
   | some .string,.d ⟨s,.str⟩=>
     match boundT (lo.map L) (.int .i64 0),boundT (hi.map L) (.o1 .len s)with
     |some l,some h=>some ⟨[.o2 .le (.int .i64 0) l,.o2 .le l h,.o2 .le h (.o1 .len s)],[],.d ⟨.sub s l h,.str⟩,none⟩
     |_,_=>none
   | some (.slice e),.d ⟨s,.slice ks⟩=>
     if P.cellsOf e==ks.length&&(P.info? e).isSome then
     match boundT (lo.map L) (.int .i64 0),boundT (hi.map L) (.o1 .len s)with
     |some l,some h=>some ⟨[.o2 .le (.int .i64 0) l,.o2 .le l h,.o2 .le h (.o1 .len s)],[],.d ⟨.sub s l h,.slice ks⟩,none⟩
     |_,_=>none
     else none
   | some (.slice e),.own ob=>match Z2H st.objs ob with
     | some (q,e',z,top)=>if P.cellsOf e==e'&&(P.info? e).isSome&&(Za3 z.k).isSome then match Z0j (lo.map L) (.int .i64 0),Z0j (hi.map L) top with
         |some l,some h=>some ⟨[.o2 .le (.int .i64 0) l,.o2 .le l h,.o2 .le h (.o1 .len z.t)],[],.own st.objs.length,some (st.objs++[.view q e' ⟨l,.int .i64⟩ ⟨h,.int .i64⟩])⟩
         |_,_=>none
       else none
     |none=>none
   |_,_=>none
 | .fieldAddr t x f=>match P.underlying t with
   | some (.struct fs)=>match fs[f]? with
     | some fd=>if P.cellsOf fd.type==0 then none else match L x with
       | .ptr ob off=>ret (.ptr ob (off+fd.offset))
       | .elt s i off=>ret (.elt s i (off+fd.offset))
       | .oelt ob i e off=>ret (.oelt ob i e (off+fd.offset))
       | .d ⟨p,.ptr ks⟩=>if fd.offset≤ks.length then ret (.d ⟨.padd p fd.offset,.ptr (ks.drop fd.offset)⟩)else none
       |_=>none
     |none=>none
   |_=>none
 | .field t x f=>match P.underlying t with
   | some (.struct fs)=>match fs[f]?,L x with
     |some fd,.agg cs=>if fd.offset+P.cellsOf fd.type≤cs.length then match Yq (YN P fd.type) ((cs.drop fd.offset).take (P.cellsOf fd.type))with|some v=>ret v|none=>none else none
     |_,_=>none
   |_=>none
 | .indexAddr t x i=>match P.underlying t,L i with
   | some (.slice e),.d ⟨it,.int k⟩=>match L x with
     | .d ⟨s,.slice ks⟩=>if P.cellsOf e==ks.length&&(P.info? e).isSome then some ⟨[.o2 .le (.int k 0) it,.o2 .lt it (.o1 .len s)],[],.elt ⟨s,.slice ks⟩ ⟨it,.int k⟩ 0,none⟩else none
     | .own ob=>match st.objs[ob]? with
       |some (.arr e' x)=>if P.cellsOf e==e'&&(P.info? e).isSome then some ⟨[.o2 .le (.int k 0) it,.o2 .lt it (.o1 .len x.t)],[],.oelt ob ⟨it,.int k⟩ e' 0,none⟩else none
       |_=>none
     | .nil=>match Y8 P Wk e with
       |some ks=>if P.cellsOf e==ks.length&&(P.info? e).isSome then some ⟨[.o2 .le (.int k 0) it,.o2 .lt it (.o1 .len .nils)],[],.elt ⟨.nils,.slice ks⟩ ⟨it,.int k⟩ 0,none⟩else none
       |none=>none
     |_=>none
   | some (.array n e),.d ⟨it,.int k⟩=>match L x with
     | .ptr ob 0=>if P.cellsOf e==1&&(P.info? e).isSome then some ⟨[.o2 .le (.int k 0) it,.o2 .lt it (.int .i64 n)],[],.bptr ob ⟨it,.int k⟩ n,none⟩else none
     |_=>none
   |_,_=>none
 | .index t x i=>match P.underlying t,L x,L i with
   | some (.array n e),.agg cs,.d ⟨it,.int k⟩=>match Y8 P Wk e with
     | some [ke]=>if P.cellsOf e==1&&YN P e==some false&&cs.length==n then match allT st.objs (List.replicate n ke) cs with
         |some ts=>some ⟨[.o2 .le (.int k 0) it,.o2 .lt it (.int .i64 n)],[],.d ⟨.sel (T.list ts) it ke,ke⟩,none⟩
         |none=>none
       else none
     |_=>none
   |some .string,.d ⟨s,.str⟩,.d ⟨it,.int k⟩=>some ⟨[.o2 .le (.int k 0) it,.o2 .lt it (.o1 .len s)],[],.d ⟨.o2 .sidx s it,.int .u8⟩,none⟩
   |_,_,_=>none
 | .extract x i=>match L x with
   | .tup vs=>match vs[i]? with|some v=>ret v|none=>none
   |_=>none
 | .makeMap t r=>if r.isSome then none else match P.underlying t with
   | some (.map kt et)=>match keyK P kt,(rkOf P et).bind Z8g with
     |some kk,some vk=>some ⟨[],[],.own st.objs.length,some (st.objs++[.mp ⟨.nils,.slice [kk,vk]⟩])⟩
     |_,_=>none
   |_=>none
 | .lookup t x i ok=>match P.underlying t,L x with
   | some (.map kt et),.own ob=>match st.objs[ob]?,keyK P kt,(rkOf P et).bind Z8g with
     | some (.mp z),some kk,some vk=>if K.beq z.k (.slice [kk,vk])then match Z7O st.objs kk (L i),zeroT P et vk with
         | some kt',some zt=>
           let c:T:=.o2 .ge (.o2 .find z.t kt') (.int .i64 0)
           let v:=Z1j c z.t (.o2 .find z.t kt') zt vk
           ret (if ok then .tup [v,.d ⟨c,.bool⟩]else v)
         |_,_=>none
       else none
     |_,_,_=>none
   | some (.map kt et),.d ⟨u,.mp ks⟩=>match keyK P kt,(rkOf P et).bind Z8g with
     | some kk,some vk=>if K.beqL ks [kk,vk]then match Z7O st.objs kk (L i),zeroT P et vk with
         | some kt',some zt=>
           let z:T:=.o1 .rows u
           let c:T:=.o2 .ge (.o2 .find z kt') (.int .i64 0)
           let v:=Z1j c z (.o2 .find z kt') zt vk
           ret (if ok then .tup [v,.d ⟨c,.bool⟩]else v)
         |_,_=>none
       else none
     |_,_=>none
   |_,_=>none
 | .mapUpdate t x i y=>match P.underlying t,L x with
   | some (.map kt et),.own ob=>match st.objs[ob]?,keyK P kt,(rkOf P et).bind Z8g with
     | some (.mp z),some kk,some vk=>if K.beq z.k (.slice [kk,vk])then match Z7O st.objs kk (L i),Z7O st.objs vk (L y)with
         |some kt',some vt=>some ⟨[],[],.any,some (Zy st.objs ob (.mp ⟨.ite (.o2 .ge (.o2 .find z.t kt') (.int .i64 0)) (.upd z.t (.o2 .find z.t kt') 1 (T.list [vt])) (.push z.t (T.list [kt',vt])),z.k⟩))⟩
         |_,_=>none
       else none
     |_,_,_=>none
   |_,_=>none
 | .call c =>match c.callee with
   | .builtin .len=>match c.args.toList,c.argTypes.toList with
     | [x],[t]=>match P.underlying t,L x with
       |some .string,.d ⟨s,.str⟩=>some ⟨[],[.o2 .le (.o1 .len s) capT],.d ⟨.o1 .len s,.int .i64⟩,none⟩
       |some (.slice _),.d ⟨s,.slice _⟩=>some ⟨[],[.o2 .le (.o1 .len s) capT],.d ⟨.o1 .len s,.int .i64⟩,none⟩
       |some (.slice _),.nil=>ret (.d ⟨.int .i64 0,.int .i64⟩)
       | some (.slice _),.own ob=>match st.objs[ob]? with
         |some (.arr _ x)=>some ⟨[],[.o2 .le (.o1 .len x.t) capT],.d ⟨.o1 .len x.t,.int .i64⟩,none⟩
         |some (.view _ _ ⟨.int .i64 0,.int .i64⟩ h)=>ret (.d h)
         |_=>none
       |_,_=>none
     |_,_=>none
   | .builtin .max=>match c.args.toList with
     | [x,y]=>match L x,L y with
       | .d ⟨a,.int k⟩,.d ⟨b,.int k'⟩=>if k=k' then ret (.d ⟨.ite (.o2 .gt b a) b a,.int k⟩)else none
       |_,_=>none
     |_=>none
   | .builtin .min=>match c.args.toList with
     | [x,y]=>match L x,L y with
       | .d ⟨a,.int k⟩,.d ⟨b,.int k'⟩=>if k=k' then ret (.d ⟨.ite (.o2 .lt b a) b a,.int k⟩)else none
       |_,_=>none
     |_=>none
   | .builtin .append=>match c.args.toList,c.argTypes.toList with
     | [x, y], [tx,ty]=>if tx==ty then match P.underlying tx with
       | some (.slice e)=>match Y8 P Wk e,P.info? e with
         | some ks,some info=>if info.size==ks.length&&decide (0 < info.size)&&ks.all K.flat&&(match info.zero with|some z=>z.cells.size==ks.length|none=>false)then
             match L x,srcT st.objs ks (L y)with
             | .nil,some s=>some ⟨[fitsT info.bytes (.o2 .app .nils s)],[],.own st.objs.length,some (st.objs++[.arr ks.length ⟨.o2 .app .nils s,.slice ks⟩])⟩
             | .own ob,some s=>match st.objs[ob]? with
               | some (.arr e' z)=>if e'==ks.length&&K.beq z.k (.slice ks)then
                   some ⟨[fitsT info.bytes (.o2 .app z.t s)],[],.own st.objs.length,some (Zy st.objs ob .dead++[.arr ks.length ⟨.o2 .app z.t s,.slice ks⟩])⟩
                 else none
               |_=>none
             | .own o1,none=>match L y with
               | .own o2=>match st.objs[o1]?,st.objs[o2]? with
                 | some (.view q e1 ⟨.int .i64 0,.int .i64⟩ ⟨i,.int .i64⟩),some (.view q' e2 ⟨j,.int .i64⟩ ⟨h,.int .i64⟩)=>match st.objs[q]? with
                   | some (.arr e' z)=>if q==q'&&e1==ks.length&&e2==ks.length&&e'==ks.length&&K.beq z.k (.slice ks)then
                       let m:T:=.o2 (.add .i64) i (.o2 (.sub .i64) h j)
                       some ⟨[.o2 .le i j],[],.own st.objs.length,some (Zy st.objs q (.arr e' ⟨Jx z.t i (.sub z.t j h) m,z.k⟩)++[.view q e' ⟨.int .i64 0,.int .i64⟩ ⟨m,.int .i64⟩])⟩
                     else none
                   |_=>none
                 |_,_=>none
               |_=>none
             |_,_=>none
           else none
         |_,_=>none
       |_=>none
       else none
     |_,_=>none
   | .builtin .clear=>match c.args.toList,c.argTypes.toList with
     | [x], [t] => match P.underlying t,L x with
       | some (.slice e),.own o1=>match st.objs[o1]?,Y8 P Wk e,P.info? e with
         | some (.view q e1 ⟨l,.int .i64⟩ ⟨h,.int .i64⟩),some ks,some info=>match st.objs[q]?,info.zero with
           | some (.arr e' z),some z0=>match zeroCells ks z0.cells.toList with
             | some cs=>match allT [] ks cs with
               | some ts=>if info.size==ks.length&&z0.cells.size==ks.length&&e1==ks.length&&e'==ks.length&&ks.all K.flat&&K.beq z.k (.slice ks)then
                   some ⟨[],[],.any,some (Zy st.objs q (.arr e' ⟨Jx z.t l (.rep (.o2 (.sub .i64) h l) (T.list ts)) h,z.k⟩))⟩
                 else none
               |none=>none
             |none=>none
           |_,_=>none
         |_,_,_=>none
       |_,_=>none
     |_,_=>none
   |_=>none
 |_=>none
where
 fitsT (bytes:Nat) (s:T):T:=.o2 .le (.o1 .len s) (.int .i64 (if bytes=0 then cap else cap / bytes))
 boundT:Option (SV TK)→T→Option T
   |none,d=>some d
   |some (.d ⟨t,.int _⟩),_=>some t
   |_,_=>none
 pushAll (objs:List (OV TK)) (ks:List K):T→List (SV TK)→Option T
   |acc,[]=>some acc
   | acc,v::vs=>match allT objs ks (cellsOf v)with
     |some ts=>pushAll objs ks (.push acc (T.list ts)) vs
     |none=>none
 zeroCells:List K→List Value→Option (List (SV TK))
   | [],[]=>some []
   | k ::ks,v::vs=>match Z1W v,zeroCells ks vs with
     | .d x,some r=>if K.beq x.k k then some (.d x::r)else none
     | .nil,some r=>some (.nil::r)
     | .any,some r=>match k with
       | .fn=>some (.any::r)
       | .ptr _=>some (.any::r)
       | .mp _=>some (.any::r)
       |_=>none
     |_,_=>none
   |_,_=>none
 fillParts (objs:List (OV TK)) (place:Nat→Option (Nat×Nat)):List (SV TK)→List (Nat×SV TK)→Option (List (SV TK))
   |cs,[]=>some cs
   | cs,(i,v)::rest=>match place i with
     | some (off,n)=>
       let xs:=cellsOf v
       if xs.length==n&&decide (off+n≤cs.length)&&ZaN objs v then fillParts objs place (cs.take off++xs++cs.drop (off+n)) rest else none
     |none=>none
def putT {L:Type} (l:List (SV L)) (dst:Option Tmp) (v:SV L):List (SV L):=match dst with
 |some d=>l.set d v
 |none=>l
def T.under (n:Nat):T→Bool
 | .var i=>decide (i < n)
 | .int ..| .bool _| .str _| .nils| .fn _| .lnil=>true
 | .o1 _ a=>T.under n a
 | .o2 _ a b=>T.under n a&&T.under n b
 | .idx s i _ _=>T.under n s&&T.under n i
 | .ite c a b=>T.under n c&&T.under n a&&T.under n b
 | .lcons a b=>T.under n a&&T.under n b
 | .push a b=>T.under n a&&T.under n b
 | .upd s i _ e=>T.under n s&&T.under n i&&T.under n e
 | .sub s a b=>T.under n s&&T.under n a&&T.under n b
 | .rep a b=>T.under n a&&T.under n b
 | .sel a b _=>T.under n a&&T.under n b
 | .clo _ e=>T.under n e
 | .ptr e=>T.under n e
 | .fld p _ _=>T.under n p
 | .padd p _=>T.under n p
mutual
def SV.closed (n:Nat):SV TK→Bool
 | .d x=>x.t.under n
 | .nil| .ptr ..| .bnd ..| .own _| .any=>true
 | .agg cs=>SV.closedL n cs
 | .tup cs=>SV.closedL n cs
 | .elt s i _=>s.t.under n&&i.t.under n
 | .oelt _ i _ _=>i.t.under n
 | .bptr _ i _=>i.t.under n
 | .clo _ cs=>SV.closedL n cs
 | .grd c v=>c.t.under n&&SV.closed n v
def SV.closedL (n:Nat):List (SV TK)→Bool
 | []=>true
 |c::cs=>SV.closed n c&&SV.closedL n cs
end
def Z3C (st:St TK) (ops:List Oper):Option (Nat×Bool)→Option (Option T)
 |none=>some none
 | some (j,want)=>match(ops[j]?).bind (·.dst)with
   | some d=>match st.tmps.getD d .any with
     | .d ⟨t,.bool⟩=>some (some (if want then t else T.notB t))
     | .grd ⟨c,.bool⟩ (.d ⟨t,.bool⟩)=>some (some (.o2 .band c (if want then t else T.notB t)))
     |_=>none
   |none=>none
def Z8Z (off:Nat) (xs:List TK):TK:=if off=0 then⟨.ptr (T.list (xs.map (·.t))),.ptr (xs.map (·.k))⟩else⟨.padd (.ptr (T.list (xs.map (·.t)))) off,.ptr ((xs.map (·.k)).drop off)⟩
def Zj (f:List (OV TK)→SV TK→Option (TK×List (OV TK))):List (OV TK)→List (SV TK)→Option (List TK×List (OV TK))
 |objs,[]=>some ([],objs)
 | objs,v::vs=>match f objs v with
   | some (x,objs')=>match Zj f objs' vs with
     |some (xs,objs'')=>some (x::xs,objs'')
     |none=>none
   |none=>none
def freeze:Nat→List (OV TK)→SV TK→Option (TK×List (OV TK))
 |0,_,_=>none
 | n + 1,objs,v=>match v with
   | .d x=>some (x,objs)
   | .nil=>some (⟨.nils,.slice []⟩,objs)
   | .own o=>match objs[o]? with
     |some (.arr _ x)=>some (x,objs.set o (.farr x))
     |some (.farr x)=>some (x,objs)
     | some (.mp x)=>match x.k with
       | .slice ks=>some (⟨.o1 .mpd x.t,.mp ks⟩,objs.set o (.farr ⟨.o1 .mpd x.t,.mp ks⟩))
       |_=>none
     |_=>none
   | .ptr o off=>match objs[o]? with
     | some (.box cs)=>match Zj (freeze n) objs cs with
       | some (xs,objs')=>match objs'[o]? with
         |some (.box _)=>if off≤xs.length then some (Z8Z off xs,objs'.set o (.fbox xs))else none
         |_=>none
       |none=>none
     |some (.fbox xs)=>if off≤xs.length then some (Z8Z off xs,objs)else none
     |_=>none
   | .agg cs=>match Zj (freeze n) objs cs with
     |some (xs,objs')=>some (⟨T.list (xs.map (·.t)),.agg (xs.map (·.k))⟩,objs')
     |none=>none
   | .clo f caps=>match Zj (freeze n) objs caps with
     |some (xs,objs')=>some (⟨.clo f (T.list (xs.map (·.t))),.fn⟩,objs')
     |none=>none
   |_=>none
def Z0P (n:Nat):List (OV TK)→List (SV TK)→Option (List TK×List (OV TK)):=Zj (freeze n)
structure Mode where
 own:List FuncId            -- functions whose results that are slices are theirs who call
 x:List (FuncId×(List PK×Bool)):=[]   -- functions that are handed arrays of the caller's own:their parameters;whether these come back,changed
 no:List FuncId:=[]                       -- functions whose calls are not looked into:of the ways there nothing is said
 mix:List (FuncId×List Nat×List (Nat×Option Nat)):=[]   -- functions that only lay cells of their arguments together:how many cells these have(0:whatever),which are taken
 jn:Bool:=false                           -- do the orders of a region meet again behind it
 ins:List FuncId:=[]                      -- functions whose calls are run through,on the caller's own memory
 dep:Nat:=0                               -- how deep
 inl:FuncId→Option (List (SV TK)→Oper→XS→R):=fun _=>none
 deriving Inhabited
def K.scalar:K→Bool
 | .int _| .bool| .str=>true
 |_=>false
def WS:List RK→Bool
 | []=>true
 | .cell k::ks=>k.scalar&&WS ks
 | .any::ks=>WS ks
 |_::_=>false
def RK.kind:RK→K
 | .cell k=>k
 | .agg ks=>.agg ks
 | .own ks=>.slice ks
 | .box ks=>.agg ks
 | .any=>.bool
def Z2B:T→K→K→Bool
 | .nils,k',k=>K.beq k' k||(match k with| .slice _=>true|_=>false)
 | .lcons a b,.agg (k1'::ks'),.agg (k1::ks)=>K.beq (.agg (k1'::ks')) (.agg (k1::ks))||(Z2B a k1' k1&&Z2B b (.agg ks') (.agg ks))
 |_,k',k=>K.beq k' k
def Z6y (x:TK) (k:K):Bool:=Z2B x.t x.k k
def YJ (P:Program):List TypeId→List TK→Bool
 | [],_=>true
 |_::_,[]=>false
 |t::tys,x::xs=>(match rkOf P t with|some rk=>Z6y x rk.kind|none=>true)&&YJ P tys xs
def YR (P:Program) (f:FuncId) (ts:List TK):Bool:=match P.funcs[f]? with
 |some fn=>YJ P fn.params.toList ts
 |none=>true
def Z8 (P:Program) (own:Bool):List TypeId→Option (List RK)
 | []=>some []
 | t ::ts=>match Z8 P own ts with
   | some ks=>match rkOf P t with
     | some k=>match k,own with
       | .cell (.slice e),true=>some (.own e::ks)
       |k,_=>some (k::ks)
     |none=>some (.any::ks)
   |none=>none
def JD (P:Program) (t:TypeId):List TypeId:=match P.underlying t with
 |some (.tuple ts)=>ts.toList
 |_=>[t]
def Yd (n:Nat):List K→List TK
 | []=>[]
 |k::ks=>⟨.var n,k⟩::Yd (n+1) ks
def Ja:List RK→Nat→List (OV TK)→List (SV TK)×Nat×List (OV TK)
 | [],n,objs=>([],n,objs)
 | .cell k::ks,n,objs=>let(vs,m,o):=Ja ks (n+1) objs;(.d ⟨.var n,k⟩::vs,m,o)
 | .agg k::ks,n,objs=>let(vs,m,o):=Ja ks (n+k.length) objs;(.agg ((Yd n k).map .d)::vs,m,o)
 | .any::ks,n,objs=>let(vs,m,o):=Ja ks n objs;(.any::vs,m,o)
 | .box k::ks,n,objs=>let(vs,m,o):=Ja ks (n+k.length) objs;(.any::vs,m,o)
 | .own e::ks,n,objs=>let(vs,m,o):=Ja ks (n+1) (objs++[.arr e.length ⟨.var n,.slice e⟩]);(.own objs.length::vs,m,o)
def Wm:List (SV TK)→SV TK
 | [v]=>v
 |vs=>.tup vs
def T.toList:T→Option (List T)
 | .lnil=>some []
 | .lcons a b=>(T.toList b).map (a:: ·)
 |_=>none
def J2 (P:Program) (f:FuncId):Bool:=match P.funcs[f]? with
 |some fn=>fn.body.isSome&&!(fn.name== "runtime.NumGoroutine")
 |none=>false
def Yh:List RK→Bool
 | []=>true
 | .own _::_=>false
 | .box _::_=>false
 |_::ks=>Yh ks
def Z26 (g:Option T) (v:SV TK):SV TK:=match g with
 |none=>v
 |some c=>.grd ⟨c,.bool⟩ v
def ZcP (g:Option T) (sc:Bool) (objs:List (OV TK)) (vs:List (SV TK)):Option (List TK×List (OV TK)):=if g.isSome&&!sc then
   match Z0P 6 [] vs with
   |some p=>some (p.1,objs)
   |none=>none
 else Z0P 6 objs vs
def Zbu (P:Program) (g:Option T) (xs:XS) (o:Oper) (objs:List (OV TK)) (ts:List TK) (own:Bool) (f:Fv) (extra:List T):R:=
 match Z8 P own (JD P o.type)with
 |none=>.fail "call the results types"
 | some rk=>
   if g.isSome&&!Yh rk then .fail "call an own array under a guard" else
   let(vs,n,objs'):=Ja rk xs.nv objs
   .call g f (ts.map (·.t)++extra) rk (.leaf .norm {xs with st:= {tmps:=putT xs.st.tmps o.dst (Z26 g (Wm vs)),objs:=objs'},nv:=n})
def JU (P:Program) (o:Oper):Bool:=match Z8 P false (JD P o.type)with
 |some rk=>WS rk
 |none=>false
def Zs (P:Program) (f:FuncId):List TypeId:=match P.funcs[f]? with
 |some fn=>fn.resultTypes.toList
 |none=>[]
def ZB:List TypeId→List TypeId→Bool
 | [],[]=>true
 |a::l,b::r=>a==b&&ZB l r
 |_,_=>false
def ZcZ:List TK→List K→Bool
 | [],[]=>true
 |x::xs,k::ks=>Z6y x k&&ZcZ xs ks
 |_,_=>false
def Z0S:List (OV TK)→List PK→List (SV TK)→Option (List RT×List Nat×List (OV TK))
 |objs,[],[]=>some ([],[],objs)
 | objs, .own ks::pk,v::vs=>match v with
   | .own o=>match objs[o]? with
     | some (.arr e x)=>if e==ks.length&&K.beq x.k (.slice ks)then match Z0S objs pk vs with
         | some (rs,is,objs')=>if is.contains o then none else match objs'[o]? with
           |some (.arr e' x')=>if e==e'&&TK.beq x x' then some (.own e x.t::rs,o::is,objs')else none
           |_=>none
         |none=>none
       else none
     |_=>none
   |_=>none
 | objs, .box ks::pk,v::vs=>match v with
   | .ptr o 0=>match objs[o]? with
     | some (.box cs)=>match Z0P 6 objs cs with
       | some (xs,objs1)=>if ZcZ xs ks then match Z0S objs1 pk vs with
           | some (rs,is,objs')=>if is.contains o then none else match objs'[o]? with
             |some (.box cs')=>if SV.beqL cs' cs then some (.box (T.list (xs.map (·.t)))::rs,o::is,objs')else none
             |_=>none
           |none=>none
         else none
       |none=>none
     |_=>none
   |_=>none
 | objs,.cell k::pk,v::vs=>match freeze 6 objs v with
   | some (x,objs1)=>if Z6y x k then match Z0S objs1 pk vs with
       |some (rs,is,objs')=>some (.d x.t::rs,is,objs')
       |none=>none
     else none
   |none=>none
 | objs,.agg ks::pk,v::vs=>match freeze 6 objs v with
   | some (x,objs1)=>if K.beq x.k (.agg ks)then match Z0S objs1 pk vs with
       |some (rs,is,objs')=>some (.d x.t::rs,is,objs')
       |none=>none
     else none
   |none=>none
 |_,_,_=>none
def Ya:List PK→List RK
 | []=>[]
 | .own ks::pk=>.own ks::Ya pk
 | .box ks::pk=>.box ks::Ya pk
 |_::pk=>Ya pk
def Yk:List (OV TK)→List Nat→List (OV TK)
 |objs,[]=>objs
 |objs,o::os=>Yk (objs.set o .dead) os
def WD:List (OV TK)→List Nat→List RK→Nat→List (OV TK)
 |objs,o::os,.own ks::rk,n=>WD (objs.set o (.arr ks.length ⟨.var n,.slice ks⟩)) os rk (n+1)
 |objs,o::os,.box ks::rk,n=>WD (objs.set o (.box ((Yd n ks).map .d))) os rk (n+ks.length)
 |objs,_,_,_=>objs
def callX (P:Program) (xs:XS) (o:Oper) (vs:List (SV TK)) (own:Bool) (f:FuncId) (pk:List PK) (upd:Bool):R:=
 if !J2 P f||!ZB (JD P o.type) (Zs P f)then .fail "callX no body" else
 match Z0S xs.st.objs pk vs,Z8 P own (JD P o.type)with
 | some (rs,is,objs),some rk=>
   if upd then
     let(us,n,objs1):=Ja rk xs.nv (WD (Yk objs is) is (Ya pk) (xs.nv+(RK.all rk).length))
     .callX true f rs (rk++Ya pk) (.leaf .norm {xs with st:= {tmps:=putT xs.st.tmps o.dst (Wm us),objs:=objs1},nv:=n+(RK.all (Ya pk)).length})
   else
     let(us,n,objs1):=Ja rk xs.nv (Yk objs is)
     .callX false f rs rk (.leaf .norm {xs with st:= {tmps:=putT xs.st.tmps o.dst (Wm us),objs:=objs1},nv:=n})
 |_,_=>.fail "callX an argument"
def mix1 {L:Type} (cells:L→Option (List L)) (vs:List L):Nat×Option Nat→Option L
 |(i,none)=>vs[i]?
 |(i,some j)=>((vs[i]?).bind cells).bind (·[j]?)
def mixL {L:Type} (cells:L→Option (List L)) (vs:List L):List (Nat×Option Nat)→Option (List L)
 | []=>some []
 | p::r=>match mix1 cells vs p,mixL cells vs r with
   |some c,some cs=>some (c::cs)
   |_,_=>none
def aggS:SV TK→Option (List (SV TK))
 | .agg cs=>some cs
 |_=>none
def aggV:Value→Option (List Value)
 | .agg a=>some a.toList
 |_=>none
def Z9g:List Nat→List (SV TK)→Bool
 | [],[]=>true
 |n::ns,v::vs=>(n==0||(match v with| .agg cs=>cs.length==n|_=>false))&&Z9g ns vs
 |_,_=>false
def YG:List PK→List (SV TK)→List (OV TK)→List (SV TK)×List (OV TK)
 | k::pk,v::vs,objs=>match k,v with
   | .own ks,.nil=>(.own objs.length::(YG pk vs (objs++[.arr ks.length ⟨.nils,.slice ks⟩])).1,(YG pk vs (objs++[.arr ks.length ⟨.nils,.slice ks⟩])).2)
   |_,_=>(v::(YG pk vs objs).1,(YG pk vs objs).2)
 |_,vs,objs=>(vs,objs)
def Z9y (P:Program) (md:Mode) (xs:XS) (o:Oper) (vs:List (SV TK)) (f:FuncId) (pk:List PK) (upd:Bool):R:=
 match md.mix.find? (fun p=>p.1==f)with
 |none=>callX P {xs with st:=⟨xs.st.tmps,(YG pk vs xs.st.objs).2⟩} o (YG pk vs xs.st.objs).1 (md.own.contains f) f pk upd
 | some (_,sz,sh)=>if J2 P f&&Z9g sz vs then match mixL aggS vs sh with
     |some cs=>if cs.all (Z4K xs.st.objs)then .mix f sz sh (.leaf .norm {xs with st:= {tmps:=putT xs.st.tmps o.dst (.agg cs),objs:=xs.st.objs}})else .fail "mix one cell"
     |none=>.fail "mix"
   else .fail "mix cells"
def Z9X (P:Program) (md:Mode) (g gr:Option T) (xs:XS) (o:Oper) (fv:Operand) (args:List Operand):R:=
 let vs:=args.map fun x=>thaw xs.st.objs (Y4 g (look xs.st x))
 let w:=thaw xs.st.objs (Y4 g (look xs.st fv))
 match w with
 | .own _=>.fail "call a round"
 | .bnd f q=>(match md.x.find? (fun p=>p.1==f)with
   |some (f,pk,upd)=>if gr.isSome then .fail "call guarded" else Z9y P md xs o (.ptr q 0::vs) f pk upd
   |none=>.fail "call a bound one")
 |_=>
 match(match w with| .d ⟨.fn f,.fn⟩=>md.x.find? (fun p=>p.1==f)|_=>none)with
 |some (f,pk,upd)=>if gr.isSome then .fail "call guarded" else Z9y P md xs o vs f pk upd
 |none=>
 let sc:=JU P o
 match ZcP gr sc xs.st.objs vs with
 |none=>.fail "call an argument"
 | some (ts,objs')=>
   let objs:=if sc then xs.st.objs else objs'
   match w with
   | .d ⟨.fn f,.fn⟩=>if J2 P f&&YR P f ts&&ZB (JD P o.type) (Zs P f)then Zbu P gr xs o objs ts (md.own.contains f) (.fn f) []else .fail "call no body"
   | .d ⟨.clo f e,.fn⟩=>if J2 P f&&YR P f ts&&ZB (JD P o.type) (Zs P f)then match T.toList e with
       |some caps=>Zbu P gr xs o objs ts (md.own.contains f) (.fn f) caps
       |none=>.fail "call captures"
     else .fail "call no body"
   | .d ⟨t,.fn⟩=>Zbu P gr xs o objs ts false (.val t) []
   |_=>.fail "call the function"
def ZZ (P:Program) (xs:XS) (g gr:Option T) (o:Oper):R:=
 match sxOp P g xs.st o with
 |none=>.fail o.pos
 | some s=>match gr with
   |none=>.needs s.needs (.facts s.facts (.leaf .norm {xs with st:= {tmps:=putT xs.st.tmps o.dst s.v,objs:=s.objs.getD xs.st.objs}}))
   | some c=>if s.objs.isSome||!s.v.closed xs.nv then .fail "guarded memory" else
     .needs (s.needs.map (T.imp c)) (.facts (s.facts.map (T.imp c)) (.leaf .norm {xs with st:= {tmps:=putT xs.st.tmps o.dst (.grd ⟨c,.bool⟩ s.v),objs:=xs.st.objs}}))
def Z1I (xs:XS) (g gr:Option T) (o:Oper) (f:FuncId) (first captured:List Operand):R:=
 if !first.isEmpty then(match first,captured,gr with
   | [x],[],none=>(match thaw xs.st.objs (Y4 g (look xs.st x))with
     | .ptr q 0=>.leaf .norm {xs with st:= {tmps:=putT xs.st.tmps o.dst (.bnd f q),objs:=xs.st.objs}}
     |_=>.fail "makeFunc a receiver")
   |_,_,_=>.fail "makeFunc")else if gr.isSome then .fail "makeFunc" else
 match Z0P 6 xs.st.objs (captured.map fun x=>thaw xs.st.objs (Y4 g (look xs.st x)))with
 |some (ts,objs)=>.leaf .norm {xs with st:= {tmps:=putT xs.st.tmps o.dst (.d ⟨.clo f (T.list (ts.map (·.t))),.fn⟩),objs:=objs}}
 |none=>.fail "makeFunc captures"
def Zd6:Operand→Bool
 | .const (.slice none _ _)=>true
 |_=>false
def Zd0 (P:Program) (xs:XS) (g:Option T) (t:TypeId) (x y:Operand):Option T:=if Zd6 y then(match P.underlying t,thaw xs.st.objs (Y4 g (look xs.st x))with
 |some (.slice _),.d ⟨s,.slice _⟩=>some s
 |_,_=>none)else none
def Z5b (P:Program) (xs:XS) (g gr:Option T) (o:Oper) (t:TypeId) (x y:Operand) (neg:Bool):R:=
 match Zd0 P xs g t x y with
 | some s=>if gr.isSome then .fail "nil guarded" else
   .guess (.o2 .eq (.o1 .len s) (.int .i64 0)) (.leaf .norm {xs with st:= {tmps:=putT xs.st.tmps o.dst (.d ⟨if neg then T.notB (.var xs.nv)else .var xs.nv,.bool⟩),objs:=xs.st.objs},nv:=xs.nv+1})
 |none=>ZZ P xs g gr o
def Mode.cuts (md:Mode):Operand→Bool
 | .func f=>md.no.contains f
 |_=>false
def Z35 (P:Program) (md:Mode) (g gr:Option T) (xs:XS) (o:Oper):R:=
 match o.op with
 | .call c=>match c.callee with
   | .value fv=>if md.cuts fv then .fail "cut" else Z9X P md g gr xs o fv c.args.toList
   |_=>ZZ P xs g gr o
 | .makeFunc (.func f) first captured=>Z1I xs g gr o f first.toList captured.toList
 | .binOp .eql t x y _=>Z5b P xs g gr o t x y false
 | .binOp .neq t x y _=>Z5b P xs g gr o t x y true
 |_=>ZZ P xs g gr o
def R.failed:R→Bool
 | .fail _=>true
 |_=>false
def Z5L (P:Program) (o:Oper) (c:T):SV TK:=match Z8 P false (JD P o.type)with
 |some [.cell .bool]=>.grd ⟨c,.bool⟩ (.d ⟨.bool false,.bool⟩)
 |some [.cell (.int k)]=>.grd ⟨c,.bool⟩ (.d ⟨.int k 0,.int k⟩)
 |some [.cell .str]=>.grd ⟨c,.bool⟩ (.d ⟨.str [],.str⟩)
 |some [.cell (.slice ks)]=>.grd ⟨c,.bool⟩ (.d ⟨.nils,.slice ks⟩)
 |_=>.grd ⟨c,.bool⟩ .nil
def ZcW (P:Program) (xs:XS) (o:Oper) (c:T):XS:= {xs with st:= {tmps:=putT xs.st.tmps o.dst (Z5L P o c),objs:=xs.st.objs}}
def inlV (vs:List (SV TK)):SV TK→Option (FuncId×List (SV TK))
 | .d ⟨.fn f,.fn⟩=>some (f,vs)
 | .clo f caps=>some (f,vs++caps)
 | .bnd f q=>some (f,.ptr q 0::vs)
 |_=>none
def inlR (md:Mode) (xs:XS) (o:Oper):Option R:=match o.guard,o.op with
 | none,.call c=>match c.callee with
   | .value fv=>match inlV (c.args.toList.map fun x=>thaw xs.st.objs (look xs.st x)) (thaw xs.st.objs (look xs.st fv))with
     | some (f,vs)=>match md.inl f with
       |some g=>some (g vs o xs)
       |none=>none
     |none=>none
   |_=>none
 | none,.makeFunc (.func f) first captured=>if(md.inl f).isSome&&first.isEmpty then
     some (.leaf .norm {xs with st:= {tmps:=putT xs.st.tmps o.dst (.clo f (captured.toList.map fun x=>thaw xs.st.objs (look xs.st x))),objs:=xs.st.objs}})
   else none
 |_,_=>none
def Z61 (P:Program) (md:Mode) (ops:List Oper) (xs:XS) (o:Oper):R:=
 match inlR md xs o with
 |some r=>r
 |none=>match Z3C xs.st ops o.guard with
 |none=>.fail "guard"
 | some g=>match g with
   |none=>Z35 P md none none xs o
   | some c=>
     let r:=Z35 P md (some c) (some c) xs o
     if r.failed then .ite c (Z35 P md (some c) none xs o) (.leaf .norm (ZcW P xs o c))else r
def Z9S (xs:XS) (o:Oper) (fv:Operand) (args:List Operand):Option R:=
 match o.guard,thaw xs.st.objs (look xs.st fv)with
 | none,.own q=>match xs.st.objs[q]? with
   | some .yld=>match Z0P 6 xs.st.objs (args.map fun x=>thaw xs.st.objs (look xs.st x))with
     |some (ts,objs)=>some (.yield (ts.map (·.t)) (.leaf .norm {xs with st:= {tmps:=putT xs.st.tmps o.dst (.d ⟨.var xs.nv,.bool⟩),objs:=objs},nv:=xs.nv+1}))
     |none=>none
   |_=>none
 |_,_=>none
def Z84 (xs:XS) (o:Oper):Option R:=match o.op with
 | .call c=>match c.callee with
   | .value fv=>Z9S xs o fv c.args.toList
   |_=>none
 |_=>none
def Z9T (P:Program) (md:Mode) (ops:List Oper):List Nat→XS→R
 | [],xs=>.leaf .norm xs
 | i ::is,xs=>match ops[i]? with
   |none=>Z9T P md ops is xs
   | some o=>((Z84 xs o).getD (Z61 P md ops xs o)).bind fun e xs'=>match e with
     | .norm=>Z9T P md ops is xs'
     |e=>.leaf e xs'
def deps (ops:List Oper) (i:Nat):List Nat:=match ops[i]? with
 |some o=>(o.after.toList.filter (Region.binds .any)).map (·.on)
 |none=>[]
def nub:List Nat→List Nat
 | []=>[]
 |x::l=>let r:=nub l;if r.contains x then r else x::r
def ancs (ops:List Oper):Nat→List Nat→List Nat
 |0,l=>l
 | n+1,l=>match l with
   | []=>[]
   |l=>l++ancs ops n (nub (l.flatMap (deps ops)))
def Z1n (o:Oper):Bool:=match o.op with
 | .call c=>match c.callee with| .builtin .len| .builtin .max| .builtin .min=>false|_=>true
 | .assign _| .store ..| .alloc _| .box ..| .buildSlice ..| .makeSlice ..| .makeFunc ..| .makeMap ..| .mapUpdate ..=>true
 |_=>false
def Z3h (ops:List Oper) (listed:List Nat) (i:Nat):Bool:=(deps ops i).all listed.contains
def Zh9 (st:St TK) (ops:List Oper) (o:Oper):Bool:=match o.op with
 | .slice _ x _ _ _=>
   let y:=match ops.find? (fun q=>match q.dst,x with|some d,.tmp t=>d==t|_,_=>false)with
     |some q=>(match q.op with| .move y=>y|_=>x)
     |none=>x
   match thaw st.objs (look st y)with
   | .own _=>true
   |_=>false
 |_=>false
def ZcC (st:St TK) (ops:List Oper):Nat→List Nat→List Nat
 |0,acc=>acc.reverse
 | n +1,acc=>
   let rs:=(List.range ops.length).filter fun i=>!acc.contains i&&Z3h ops acc i
   match rs.find? (fun i=>match ops[i]? with|some o=>!Z1n o&&!Zh9 st ops o|none=>false)with
   |some i=>ZcC st ops n (i::acc)
   | none=>match rs with
     |i::_=>ZcC st ops n (i::acc)
     | []=>acc.reverse
def Z5n (ops:List Oper) (pre:List Nat) (i:Nat) (o:Oper):Bool:=
 let anc:=ancs ops ops.length (deps ops i)
 pre.all fun j=>anc.contains j||match(ops[j]?).bind (·.dst)with
   |some t=>!(Oper.looksAt ops.toArray o).contains t
   |none=>true
def Z5h (xs:XS) (o:Oper) (v:SV TK):Bool:=match o.dst with
 |some d=>SV.beq v (xs.st.tmps.getD d .any)
 |none=>true
def Z7k (P:Program) (ops:List Oper) (pre:List Nat) (xs:XS) (i:Nat):Option (List T):=match ops[i]? with
 |none=>none
 | some o=>if !Z5n ops pre i o||Z1n o then none else match Z3C xs.st ops o.guard with
   |none=>none
   | some g=>match sxOp P g xs.st o with
     |none=>none
     | some s=>if s.objs.isSome then none else
       match g with
       |none=>if Z5h xs o s.v then some s.needs else none
       |some c=>if Z5h xs o (.grd ⟨c,.bool⟩ s.v)&&s.v.closed xs.nv then some (s.needs.map (T.imp c))else none
def JT (P:Program) (ops:List Oper) (pre:List Nat) (xs:XS) (forced:List Nat):List Nat→Option (List T)
 | []=>some []
 | j::l=>if forced.contains j then JT P ops pre xs forced l else match Z7k P ops pre xs j,JT P ops pre xs forced l with
   |some a,some b=>some (a++b)
   |_,_=>none
def ZaO (P:Program) (ops:List Oper) (xs:XS) (o:Oper):Bool:=!Z1n o&&match Z3C xs.st ops o.guard with
 |none=>false
 | some g=>match sxOp P g xs.st o with
   |some s=>s.objs.isNone
   |none=>false
def ZcX (ops:List Oper) (ex pre:List Nat) (i:Nat):Option Nat:=(List.range ops.length).find? fun j=>!(pre.contains j||j==i||ex.contains j||!Z3h ops pre j)
def acts (P:Program) (ops:List Oper) (xs:XS) (o:Oper):Bool:=Z1n o||match o.op with
 | .slice ..=>!ZaO P ops xs o
 |_=>false
def Zdd (P:Program) (ops:List Oper) (xs:XS) (j:Nat):Bool:=match ops[j]? with
 |some o=>acts P ops xs o
 |none=>false
def Yo (P:Program) (md:Mode) (ops:List Oper):Nat→List Nat→List Nat→List Nat→List Nat→XS→R
 |0,_,_,_,_,_=>.fail "order depth"
 | _ +1,_,[],pre,forced,xs=>if(List.range ops.length).all pre.contains then match JT P ops pre xs forced pre with
     |some ns=>.needs ns (.leaf .norm xs)
     |none=>.fail "order the end"
   else .fail "order not all"
 | n + 1,ex,i::is,pre,forced,xs=>match ops[i]? with
   |none=>.fail "order"
   | some o=>if pre.contains i||!Z3h ops pre i then .fail "order" else
     if acts P ops xs o then
       match JT P ops pre xs forced pre with
       | some ns=>.needs ns (match ZcX ops ex pre i with
         | some j=>if Zdd P ops xs j then
             .guess (.bool true) (.ite (.var xs.nv) (Yo P md ops n (j::ex) (i::is) pre forced {xs with nv:=xs.nv+1}) (Yo P md ops n (List.range ops.length) (j::(i::is).erase j) pre forced {xs with nv:=xs.nv+1}))
           else .fail "order two may come"
         | none=>if Z5n ops pre i o then(Z61 P md ops xs o).bind fun e xs'=>match e with
             | .norm=>Yo P md ops n [] is (i::pre) (i::(ancs ops ops.length (deps ops i)++forced)) xs'
             |e=>.leaf e xs'
           else .fail "order what it reads")
       |none=>.fail "order what is free"
     else if ZaO P ops xs o then(match Z3C xs.st ops o.guard with|some g=>ZZ P xs g g o|none=>.fail "guard").bind fun e xs'=>match e with
       | .norm=>Yo P md ops n [] is (i::pre) forced xs'
       |e=>.leaf e xs'
     else .fail "order no plain operation"
def Z2I (P:Program) (md:Mode) (ops:List Oper) (draw:Bool) (xs:XS):R:=
 if draw then if P.follows .mixedOrders then Yo P md ops (ops.length * ops.length+2) [] (ZcC xs.st ops ops.length []) [] [] xs else .fail "order the programs"
 else Z9T P md ops (List.range ops.length) xs
def R.norms:R→List XS
 | .need _ r| .fact _ r| .lets _ r| .call _ _ _ _ r| .loop _ _ _ r=>r.norms
 | .ite _ a b=>a.norms++b.norms
 | .leaf .norm xs=>[xs]
 | .callX _ _ _ _ r| .yield _ r| .guess _ r| .mix _ _ _ r=>r.norms
 | .iter _ _ _ _ _ b d=>b.norms++d.norms
 | .join _ _ b c=>b.norms++c.norms
 |_=>[]
structure Gen where
 n:Nat                      -- the next variable
 ks:List K                  -- the new variables' kinds
 objs:List (OV TK)          -- new objects
 lim:Nat                    -- variables from here on are no state's own
def arrK:OV TK→Option (List K)
 | .arr _ ⟨_,.slice ks⟩=>some ks
 |_=>none
def genSV (g:Gen) (base:Nat) (oa:List (OV TK)) (a:SV TK) (bs:List (SV TK×List (OV TK))):SV TK×Gen:=
 if bs.all (fun b=>SV.beq a b.1)&&SV.closed g.lim a then(a,g)else
 match a with
 | .d ⟨_,k⟩=>if bs.all (fun b=>isD k b.1 b.2)then fresh g k else(.any,g)
 | .nil=>match bs.findSome? (fun b=>dataK b.1)with
   |some (.slice ks)=>if bs.all (fun b=>isD (.slice ks) b.1 b.2)then fresh g (.slice ks)else(.any,g)
   |some _=>(.any,g)
   | none=>match bs.findSome? (fun b=>ownK b.1 b.2)with
     |some ks=>if bs.all (fun b=>isOwn ks b.1 b.2)then freshOwn g ks else(.any,g)
     |none=>(.any,g)
 | .own o=>match(oa[o]?).bind arrK with
   | some ks => if bs.all (fun b=>isOwn ks b.1 b.2)then freshOwn g ks
                else if bs.all (fun b=>isD (.slice ks) b.1 b.2)then fresh g (.slice ks)else(.any,g)
   | none=>match oa[o]? with
     |some (.farr x)=>if bs.all (fun b=>isD x.k b.1 b.2)then fresh g x.k else(.any,g)
     |_=>(.any,g)
 | .agg cs=>genAgg g cs bs
 |_=>(.any,g)
where
 fresh (g:Gen) (k:K):SV TK×Gen:=(.d ⟨.var g.n,k⟩,{g with n:=g.n+1,ks:=g.ks++[k]})
 freshOwn (g:Gen) (ks:List K):SV TK×Gen:=
   (.own (base+g.objs.length),{n:=g.n+1,ks:=g.ks++[.slice ks],objs:=g.objs++[.arr ks.length ⟨.var g.n,.slice ks⟩],lim:=g.lim})
 isD (k:K) (b:SV TK) (ob:List (OV TK)):Bool:=match b with
   | .d x=>K.beq x.k k
   | .nil=>match k with| .slice _=>true|_=>false
   | .own o=>match ob[o]? with
     |some (.arr _ x)=>K.beq x.k k
     |some (.farr x)=>K.beq x.k k
     |_=>false
   |_=>false
 dataK (b:SV TK):Option K:=match b with
   | .d x=>some x.k
   |_=>none
 ownK (b:SV TK) (ob:List (OV TK)):Option (List K):=match b with
   | .own o=>(ob[o]?).bind arrK
   |_=>none
 isOwn (ks:List K) (b:SV TK) (ob:List (OV TK)):Bool:=match b with
   | .nil=>true
   | .own o=>match(ob[o]?).bind arrK with|some ks'=>K.beqL ks ks'|none=>false
   |_=>false
 genAgg (g:Gen) (cs:List (SV TK)) (bs:List (SV TK×List (OV TK))):SV TK×Gen:=
   if bs.all (fun b=>match b.1 with| .agg ds=>ds.length==cs.length|_=>false)then
     let(r,g):=cs.zipIdx.foldl (fun(acc:List (SV TK)×Gen) (c,i)=>
       let(v,g):=genCell acc.2 c (bs.map fun b=>(match b.1 with| .agg ds=>ds.getD i .any|_=>.any,b.2))
       (acc.1++[v],g)) ([],g)
     (.agg r,g)
   else(.any,g)
 genCell (g:Gen) (a:SV TK) (bs:List (SV TK×List (OV TK))):SV TK×Gen:=
   if bs.all (fun b=>SV.beq a b.1)&&SV.closed g.lim a then(a,g)else
   match a with
   | .d ⟨_,k⟩=>if bs.all (fun b=>isD k b.1 b.2)then fresh g k else(.any,g)
   |_=>(.any,g)
def Z8t (base:Nat) (oa:List (OV TK)):Gen→List (SV TK)→List (List (SV TK)×List (OV TK))→List (SV TK)×Gen
 |g,[],_=>([],g)
 | g,a::l,bs=>
   let(v,g):=genSV g base oa a (bs.map fun b=>(b.1.headD .any,b.2))
   let(vs,g):=Z8t base oa g l (bs.map fun b=>(b.1.tail,b.2))
   (v::vs,g)
def Zhc (base:Nat) (oa:List (OV TK)) (g:Gen) (a:OV TK) (bs:List (OV TK×List (OV TK))):OV TK×Gen:=
 match a with
 | .box cs=>if bs.all (fun b=>match b.1 with| .box ds=>ds.length==cs.length|_=>false)then
     let(r,g):=Z8t base oa g cs (bs.map fun b=>(match b.1 with| .box ds=>ds|_=>[],b.2))
     (.box r,g)
   else if bs.all (fun b=>match b.1 with| .fbox _| .box _=>true|_=>false)then(.dead,g)
   else(.dead,g)
 | .arr e x=>if bs.all (fun b=>match b.1 with| .arr e' y=>e==e'&&TK.beq x y|_=>false)&&x.t.under g.lim then(a,g)
   else if bs.all (fun b=>match b.1 with| .arr e' y=>e==e'&&K.beq x.k y.k|_=>false)then
     (.arr e ⟨.var g.n,x.k⟩,{g with n:=g.n+1,ks:=g.ks++[x.k]})
   else if bs.all (fun b=>match b.1 with| .arr _ y| .farr y=>TK.beq x y|_=>false)&&x.t.under g.lim then(.farr x,g)
   else(.dead,g)
 | .fbox cs=>if bs.all (fun b=>match b.1 with| .fbox ds=>decide (cs.length=ds.length)&&(cs.zip ds).all (fun p=>TK.beq p.1 p.2)|_=>false)then(a,g)else(.dead,g)
 | .farr x=>if bs.all (fun b=>match b.1 with| .farr y=>TK.beq x y|_=>false)then(a,g)else(.dead,g)
 | .mp x=>if bs.all (fun b=>match b.1 with| .mp y=>TK.beq x y|_=>false)&&x.t.under g.lim then(a,g)
   else if bs.all (fun b=>match b.1 with| .mp y=>K.beq x.k y.k|_=>false)then
     (.mp ⟨.var g.n,x.k⟩,{g with n:=g.n+1,ks:=g.ks++[x.k]})
   else(.dead,g)
 | .view ..=>(.dead,g)
 | .yld=>if bs.all (fun b=>match b.1 with| .yld=>true|_=>false)then(a,g)else(.dead,g)
 | .sav cs=>if bs.all (fun b=>match b.1 with| .sav ds=>ds.length==cs.length|_=>false)then
     let(r,g):=Z8t base oa g cs (bs.map fun b=>(match b.1 with| .sav ds=>ds|_=>[],b.2))
     (.sav r,g)
   else(.dead,g)
 | .dead=>(.dead,g)
def Zb0 (base:Nat) (oa:List (OV TK)):Gen→List (OV TK)→List (List (OV TK)×List (OV TK))→List (OV TK)×Gen
 |g,[],_=>([],g)
 | g,a::l,bs=>
   let(v,g):=Zhc base oa g a (bs.map fun b=>(b.1.headD .dead,b.2))
   let(vs,g):=Zb0 base oa g l (bs.map fun b=>(b.1.tail,b.2))
   (v::vs,g)
mutual
def SV.objsIn:SV TK→List Nat
 | .ptr o _| .oelt o _ _ _| .own o| .bnd _ o| .bptr o _ _=>[o]
 | .agg cs| .tup cs| .clo _ cs=>SV.objsInL cs
 | .grd _ v=>SV.objsIn v
 |_=>[]
def SV.objsInL:List (SV TK)→List Nat
 | []=>[]
 |c::cs=>SV.objsIn c++SV.objsInL cs
end
def SV.quick (objs:List (OV TK)) (v:SV TK):SV TK:=if(SV.objsIn v).any (fun o=>match objs[o]? with|some .dead=>true|_=>false)then .any else v
def Z9r (n nl:Nat) (a:XS) (bs:List XS):XS×List K:=
 let base:=a.st.objs.length
 let(tmps,g):=Z8t base a.st.objs ⟨n,[],[],n⟩ a.st.tmps (bs.map fun b=>(b.st.tmps,b.st.objs))
 let(objs,g):=Zb0 base a.st.objs g a.st.objs (bs.map fun b=>(b.st.objs,b.st.objs))
 ({st:= {tmps:=tmps.map (SV.quick (objs++g.objs)),objs:=objs++g.objs},nv:=g.n,nl:=nl},g.ks)
structure Mat where
 inst:List (Nat×T)
 om:List (Nat×Nat)        -- the general state's object,the other's
 objs:List (OV TK)          -- the other's objects (frozen ones,empty ones laid)
def Zby (m:Mat) (j:Nat) (t:T):Option Mat:=
 if m.inst.any (fun p=>p.1==j)then none else some {m with inst:=(j,t)::m.inst}
def Z5S (m:Mat) (h o:Nat):Option Mat:=
 if m.om.any (fun p=>p.1==h||p.2==o)then(if m.om.contains (h,o)then some m else none)else some {m with om:=(h,o)::m.om}
def Z8C:Mat→List Nat→Option Mat
 |m,[]=>some m
 | m,o::os=>match Z5S m o o with
   |some m=>Z8C m os
   |none=>none
def Z5A (n:Nat) (m:Mat) (h a:SV TK):Option Mat:=if SV.beq h a&&SV.closed n h then Z8C m (SV.objsIn h)else none
def kAt (ks:List K) (i:Nat) (k:K):Bool:=match ks[i]? with
 |some k'=>K.beq k' k
 |none=>false
def Zh6 (n:Nat) (ks:List K) (m:Mat) (j:Nat) (k:K) (a:SV TK):Option Mat:=match freeze 3 m.objs a with
 |some (x,objs)=>if Z6y x k&&kAt ks (j - n) k then Zby {m with objs:=objs} j x.t else none
 |none=>none
def Zh7 (m:Mat) (o e:Nat) (k:K) (a:SV TK):Option Mat:=match a with
 | .own o'=>Z5S m o o'
 | .nil=>match k with
   | .slice es=>Z5S {m with objs:=m.objs++[.arr e ⟨.nils,.slice es⟩]} o m.objs.length
   |_=>none
 |_=>none
def Zd1 (n:Nat) (ks:List K) (ho:List (OV TK)) (m:Mat) (h a:SV TK):Option Mat:=match h with
 | .any=>some m
 | .d ⟨.var j,k⟩=>if n≤j then Zh6 n ks m j k a else Z5A n m h a
 | .own o=>match ho[o]? with
   |some (.arr e ⟨.var j,k⟩)=>if n≤j then Zh7 m o e k a else Z5A n m h a
   |_=>Z5A n m h a
 |_=>Z5A n m h a
def ZaI (n:Nat) (ks:List K) (ho:List (OV TK)):Mat→List (SV TK)→List (SV TK)→Option Mat
 |m,[],[]=>some m
 | m,h::hs,a::l=>match Zd1 n ks ho m h a with
   |some m=>ZaI n ks ho m hs l
   |none=>none
 |_,_,_=>none
def matSV (n:Nat) (ks:List K) (ho:List (OV TK)) (m:Mat) (h a:SV TK):Option Mat:=match h,a with
 | .agg hs,.agg cs=>ZaI n ks ho m hs cs
 |h,a=>Zd1 n ks ho m h a
def Z8r (n:Nat) (ks:List K) (ho:List (OV TK)):Mat→List (SV TK)→List (SV TK)→Option Mat
 |m,[],[]=>some m
 | m,h::hs,a::l=>match matSV n ks ho m h a with
   |some m=>Z8r n ks ho m hs l
   |none=>none
 |_,_,_=>none
def Z0D (n:Nat):List TK→List TK→Bool
 | [],[]=>true
 |x::xs,y::ys=>TK.beq x y&&x.t.under n&&Z0D n xs ys
 |_,_=>false
def Zd2 (n:Nat) (ks:List K) (m:Mat) (x y:TK):Option Mat:=match x.t with
 | .var j=>if n≤j then(if K.beq x.k y.k&&kAt ks (j - n) x.k then Zby m j y.t else none)else if TK.beq x y&&x.t.under n then some m else none
 |_=>if TK.beq x y&&x.t.under n then some m else none
def Zh8 (n:Nat) (ks:List K) (ho:List (OV TK)) (m:Mat) (h:Nat) (ov:OV TK):Option Mat:=
 match ov with
 | .dead=>some m
 | ov=>
   let o:=match m.om.find? (fun p=>p.1==h)with|some p=>p.2|none=>h
   match Z5S m h o with
   |none=>none
   | some m=>match ov,m.objs[o]? with
     | .box hs,some (.box cs)=>Z8r n ks ho m hs cs
     | .arr e x,some (.arr e' y)=>if e=e' then Zd2 n ks m x y else none
     | .fbox xs,some (.fbox ys)=>if Z0D n xs ys then some m else none
     | .farr x,some (.farr y)=>if TK.beq x y&&x.t.under n then some m else none
     | .farr x,some (.arr _ y)=>if TK.beq x y&&x.t.under n then some {m with objs:=m.objs.set o (.farr y)}else none
     | .mp x,some (.mp y)=>Zd2 n ks m x y
     | .yld,some .yld=>some m
     | .sav hs,some (.sav cs)=>Z8r n ks ho m hs cs
     |_,_=>none
def ZaJ (n:Nat) (ks:List K) (ho:List (OV TK)):Mat→Nat→List (OV TK)→Option Mat
 |m,_,[]=>some m
 | m,h,ov::l=>match Zh8 n ks ho m h ov with
   |some m=>ZaJ n ks ho m (h+1) l
   |none=>none
def Z4N (f:SV TK→Option TK):List (SV TK)→Option (List TK)
 | []=>some []
 | v::vs=>match f v,Z4N f vs with
   |some x,some xs=>some (x::xs)
   |_,_=>none
def ice:Nat→List (OV TK)→SV TK→Option TK
 |0,_,_=>none
 | n +1,objs,v=>match v with
   | .d x=>some x
   | .nil=>some ⟨.nils,.slice []⟩
   | .own o=>match objs[o]? with
     |some (.farr x)=>some x
     |_=>none
   | .ptr o off=>match objs[o]? with
     |some (.fbox xs)=>if off≤xs.length then some (Z8Z off xs)else none
     |_=>none
   | .agg cs=>match Z4N (ice n objs) cs with
     |some xs=>some ⟨T.list (xs.map (·.t)),.agg (xs.map (·.k))⟩
     |none=>none
   | .clo f caps=>match Z4N (ice n objs) caps with
     |some xs=>some ⟨.clo f (T.list (xs.map (·.t))),.fn⟩
     |none=>none
   |_=>none
def JG:Nat→List (OV TK)→List (OV TK)→List Nat
 |i,.box _::l,.fbox _::r=>i::JG (i+1) l r
 |i,.arr ..::l,.farr _::r=>i::JG (i+1) l r
 |i,.mp _::l,.farr _::r=>i::JG (i+1) l r
 |i,_::l,_::r=>JG (i+1) l r
 |_,_,_=>[]
def Ww:List (OV TK)→List Nat→Option (List (OV TK))
 |objs,[]=>some objs
 | objs,o::os=>match objs[o]? with
   | some (.box _)=>match freeze 6 objs (.ptr o 0)with
     |some (_,objs')=>Ww objs' os
     |none=>none
   | some (.arr ..)=>match freeze 6 objs (.own o)with
     |some (_,objs')=>Ww objs' os
     |none=>none
   | some (.mp _)=>match freeze 6 objs (.own o)with
     |some (_,objs')=>Ww objs' os
     |none=>none
   |_=>Ww objs os
def Z5K:List (OV TK)→Bool
 | []=>true
 | .arr _ ⟨.nils,.slice _⟩::l=>Z5K l
 |_=>false
structure Chk where
 n:Nat
 ks:List K
 ho:List (OV TK)
 inst:List (Nat×T)
 om:List (Nat×Nat)
 objs:List (OV TK)
 old:Nat
def Chk.inst? (c:Chk) (j:Nat):Option T:=(c.inst.find? (fun p=>p.1==j)).map (·.2)
def Chk.om? (c:Chk) (h:Nat):Option Nat:=(c.om.find? (fun p=>p.1==h)).map (·.2)
def Chk.same (c:Chk) (h a:SV TK):Bool:=SV.beq h a&&SV.closed c.n h&&(SV.objsIn h).all fun o=>c.om? o==some o
def Chk.var (c:Chk) (j:Nat) (k:K) (a:SV TK):Bool:=match ice 3 c.objs a,c.inst? j with
 |some x,some t=>T.beq x.t t&&Z6y x k&&kAt c.ks (j - c.n) k
 |_,_=>false
def Chk.own (c:Chk) (o:Nat) (a:SV TK):Bool:=match a,c.om? o with
 | .own o',some q=>o'==q
 | .nil,some q=>decide (c.old≤q)&&decide (q < c.objs.length)
 |_,_=>false
def Chk.sv1 (c:Chk) (h a:SV TK):Bool:=match h with
 | .any=>true
 | .d ⟨.var j,k⟩=>if c.n≤j then c.var j k a else c.same h a
 | .own o=>match c.ho[o]? with
   |some (.arr _ ⟨.var j,_⟩)=>if c.n≤j then c.own o a else c.same h a
   |_=>c.same h a
 |_=>c.same h a
def Chk.sv1s (c:Chk):List (SV TK)→List (SV TK)→Bool
 | [],[]=>true
 |h::hs,a::l=>c.sv1 h a&&c.sv1s hs l
 |_,_=>false
def Chk.sv (c:Chk) (h a:SV TK):Bool:=match h,a with
 | .agg hs,.agg cs=>c.sv1s hs cs
 |h,a=>c.sv1 h a
def Chk.svs (c:Chk):List (SV TK)→List (SV TK)→Bool
 | [],[]=>true
 |h::hs,a::l=>c.sv h a&&c.svs hs l
 |_,_=>false
def Chk.arr (c:Chk) (x y:TK):Bool:=match x.t with
 | .var j=>if c.n≤j then K.beq x.k y.k&&kAt c.ks (j - c.n) x.k&&(match c.inst? j with|some t=>T.beq t y.t|none=>false)else TK.beq x y&&x.t.under c.n
 |_=>TK.beq x y&&x.t.under c.n
def Chk.obj (c:Chk) (h:Nat) (ov:OV TK):Bool:=match ov with
 | .dead=>true
 | .box hs=>match(c.om? h).bind (c.objs[·]?)with
   |some (.box cs)=>c.svs hs cs
   |_=>false
 | .arr e x=>match(c.om? h).bind (c.objs[·]?)with
   |some (.arr e' y)=>decide (e=e')&&c.arr x y
   |_=>false
 | .fbox xs=>match(c.om? h).bind (c.objs[·]?)with
   |some (.fbox ys)=>Z0D c.n xs ys
   |_=>false
 | .farr x=>match(c.om? h).bind (c.objs[·]?)with
   |some (.farr y)=>TK.beq x y&&x.t.under c.n
   |_=>false
 | .mp x=>match(c.om? h).bind (c.objs[·]?)with
   |some (.mp y)=>c.arr x y
   |_=>false
 | .view ..=>false
 | .yld=>match(c.om? h).bind (c.objs[·]?)with
   |some .yld=>true
   |_=>false
 | .sav hs=>match(c.om? h).bind (c.objs[·]?)with
   |some (.sav cs)=>c.svs hs cs
   |_=>false
def Chk.objects (c:Chk):Nat→List (OV TK)→Bool
 |_,[]=>true
 |h,ov::l=>c.obj h ov&&c.objects (h+1) l
def Chk.apart (c:Chk):List (Nat×Nat)→Bool
 | []=>true
 |p::l=>l.all (fun q=>!(p.1==q.1)&&!(p.2==q.2))&&c.apart l
def SV.vars1 (n:Nat):SV TK→List Nat
 | .d ⟨.var j,_⟩=>if n≤j then [j]else []
 |_=>[]
def SV.varsH (n:Nat):SV TK→List Nat
 | .agg hs=>hs.flatMap (SV.vars1 n)
 |h=>SV.vars1 n h
def OV.varsH (n:Nat):OV TK→List Nat
 | .box hs=>hs.flatMap (SV.varsH n)
 | .sav hs=>hs.flatMap (SV.varsH n)
 | .arr _ ⟨.var j,_⟩=>if n≤j then [j]else []
 | .mp ⟨.var j,_⟩=>if n≤j then [j]else []
 |_=>[]
def XS.varsH (n:Nat) (xs:XS):List Nat:=xs.st.tmps.flatMap (SV.varsH n)++xs.st.objs.flatMap (OV.varsH n)
def Chk.vars (c:Chk):Nat→List K→Option (List T)
 |_,[]=>some []
 | j,_::ks=>match c.inst? j,c.vars (j+1) ks with
   |some t,some ts=>some (t::ts)
   |_,_=>none
def Z2C (n:Nat) (ks:List K) (head a:XS):Option (List T):=
 match Z8r n ks head.st.objs ⟨[],[],a.st.objs⟩ head.st.tmps a.st.tmps with
 | some m=>match ZaJ n ks head.st.objs m 0 head.st.objs with
   | some m=>match Ww a.st.objs (JG 0 a.st.objs m.objs)with
     | some objs=>
       let emps:=m.objs.drop a.st.objs.length
       let c:Chk:=⟨n,ks,head.st.objs,m.inst,m.om,objs++emps,a.st.objs.length⟩
       if Z5K emps&&c.svs head.st.tmps a.st.tmps&&c.objects 0 head.st.objs&&c.apart c.om&&c.om.all (fun p=>decide (p.1 < head.st.objs.length))&&
           (List.range ks.length).all (fun i=>(head.varsH n).contains (n+i))then c.vars n ks else none
     |none=>none
   |none=>none
 |none=>none
def R.plainChain:R→Option (List (Bool×T)×XS)
 | .need t r=>match R.plainChain r with|some (l,xs)=>some ((true,t)::l,xs)|none=>none
 | .fact t r=>match R.plainChain r with|some (l,xs)=>some ((false,t)::l,xs)|none=>none
 | .leaf .norm xs=>some ([],xs)
 |_=>none
def R.chain (c:T):List (Bool×T)→R→R
 | [],r=>r
 |(true,t)::l,r=>.need (T.imp c t) (R.chain c l r)
 |(false,t)::l,r=>.fact (T.imp c t) (R.chain c l r)
def iteT (t:T):List T→List T→List T
 |a::l,b::r=>.ite t a b::iteT t l r
 |_,_=>[]
def Z5x (xs:XS) (t:T) (ra rb:R):R:=
 match ra.plainChain,rb.plainChain with
 | some (la,xa),some (lb,xb)=>
   if xa.nv=xs.nv&&xb.nv=xs.nv&&xa.nl=xs.nl&&xb.nl=xs.nl then
     let(head,ks):=Z9r xs.nv xs.nl xa [xb]
     match Z2C xs.nv ks head xa,Z2C xs.nv ks head xb with
     |some ta,some tb=>if head.nv=xs.nv+ks.length then R.chain t la (R.chain (T.notB t) lb (.lets (iteT t ta tb) (.leaf .norm head)))else .ite t ra rb
     |_,_=>.ite t ra rb
   else .ite t ra rb
 |_,_=>.ite t ra rb
def R.lvlOk (n:Nat):R→Bool
 | .need _ r| .fact _ r| .lets _ r| .call _ _ _ _ r=>R.lvlOk n r
 | .ite _ a b=>R.lvlOk n a&&R.lvlOk n b
 | .loop l _ _ b=>decide (n≤l)&&R.lvlOk n b
 | .callX _ _ _ _ r| .yield _ r| .guess _ r| .mix _ _ _ r=>R.lvlOk n r
 | .iter l _ _ _ _ b d=>decide (n≤l)&&R.lvlOk n b&&R.lvlOk n d
 | .join l _ b c=>decide (n≤l)&&R.lvlOk n b&&R.lvlOk n c
 |_=>true
def Wp (n l:Nat) (ks:List K) (head:XS) (e:XExit) (xs':XS):R:=match e with
 | .norm=>match Z2C n ks head xs' with
   |some ts=>.again l ts
   |none=>.fail "loop the rounds end"
 |e=>.leaf e xs'
def Z4i (run:XS→R) (xs head:XS) (ks:List K):Option R:=
 match Z2C xs.nv ks head xs with
 |none=>none
 | some inits=>
   let r:=run head
   if head.nv=xs.nv+ks.length∧r.lvlOk (xs.nl+1)=true then
   some (.loop xs.nl inits ks (r.bind (Wp xs.nv xs.nl ks head)))else none
def Z4G (n:Nat) (ks:List K) (head:XS) (l:List XS):Bool:=l.all fun x=>(Z2C n ks head x).isSome
def Z1r (run:XS→R) (xs:XS):Nat→List XS→XS×List K
 |0,seen=>Z9r xs.nv (xs.nl+1) xs seen
 | fuel+1,seen=>
   let(head,ks):=Z9r xs.nv (xs.nl+1) xs seen
   let ends:=(run head).norms
   if Z4G xs.nv ks head ends then(head,ks)else Z1r run xs fuel (seen++ends)
def ZcU (run:XS→R) (xs:XS):R:=
 let(head,ks):=Z1r run xs 4 ((run xs).norms)
 (Z4i run xs head ks).getD (.fail "loop the head")
def Y1 (pk:List PK):List K:=(pk.map PK.kinds).flatten
def Jr:List PK→List D→Option (List D)
 | [],[]=>some []
 | .cell _::pk,d::ds=>(Jr pk ds).map (d:: ·)
 | .agg ks::pk,.agg cs::ds=>if cs.length=ks.length then(Jr pk ds).map (cs++ ·)else none
 | .own _::pk,.slice xs::ds=>(Jr pk ds).map (.slice xs:: ·)
 | .any::pk,_::ds=>Jr pk ds
 |_,_=>none
def Zm (n o:Nat):PK→SV TK
 | .cell k=>.d ⟨.var n,k⟩
 | .agg ks=>.agg ((Yd n ks).map .d)
 | .own _=>.own o
 | .box _=>.ptr o 0
 | .any=>.any
def Z2:Nat→Nat→List PK→List (SV TK)
 |_,_,[]=>[]
 |n,o,.own ks::r=>Zm n o (.own ks)::Z2 (n+1) (o+1) r
 |n,o,.box ks::r=>Zm n o (.box ks)::Z2 (n+ks.length) (o+1) r
 |n,o,k::r=>Zm n o k::Z2 (n+k.kinds.length) o r
def W6:Nat→List PK→List (OV TK)
 |_,[]=>[]
 |n,.own ks::r=>.arr ks.length ⟨.var n,.slice ks⟩::W6 (n+1) r
 |n,.box ks::r=>.box ((Yd n ks).map .d)::W6 (n+ks.length) r
 |n,k::r=>W6 (n+k.kinds.length) r
def PK.plain:PK→Bool
 | .own _=>false
 | .box _=>false
 |_=>true
def tyIn (p:Tmp):Code→Option TypeId
 | .region _ ops _=>ops.toList.findSome? fun o=>match o.op with
   | .assign (.tmp t)| .move (.tmp t)=>if t=p then some o.type else none
   | .store t _ (.tmp q)=>if q=p then some t else none
   |_=>none
 | .seq a b=>match tyIn p a with
   |some t=>some t
   |none=>tyIn p b
 |_=>none
def Zh2 (P:Program) (t:TypeId):Option PK:=match rkOf P t with
 |some (.cell k)=>some (.cell k)
 |some (.agg ks)=>some (.agg ks)
 |_=>none
def Zd8 (P:Program) (assign:Code):List Tmp→Option (List PK)
 | []=>some []
 | p::ps=>match(match tyIn p assign with|some t=>Zh2 P t|none=>some .any),Zd8 P assign ps with
   |some k,some ks=>some (k::ks)
   |_,_=>none
def ZY:List Tmp→List (SV TK)→List (SV TK)→List (SV TK)
 |p::ps,v::vs,tmps=>ZY ps vs (tmps.set p v)
 |_,_,tmps=>tmps
def Z1f (objs:List (OV TK)):Bool:=objs.all fun o=>match o with| .sav _=>false|_=>true
def Z5k (k:Nat) (e:XExit) (x:XS):R:=match x.st.objs[k]? with
 |some (.sav cs)=>if Z1f (x.st.objs.set k .dead)then .leaf e {x with st:= {tmps:=cs,objs:=x.st.objs.set k .dead}}else .fail "range a frame"
 |_=>.fail "range the frame outside"
def Z1H (runA runB:XS→R) (ps:List Tmp) (pk:List PK) (x:XS):R:=
 ((runA {st:= {tmps:=ZY ps (Z2 x.nv 0 pk) x.st.tmps,objs:=x.st.objs++[.sav x.st.tmps]},nv:=x.nv+(Y1 pk).length,nl:=x.nl}).bind fun e y=>match e with
   | .norm=>runB y
   |_=>.fail "range the left sides").bind (Z5k x.st.objs.length)
def Z9V (runA runB:XS→R) (t:T) (ps:List Tmp) (pk:List PK) (xs:XS):R:=
 let rnd:=Z1H runA runB ps pk
 let(head,ks):=Z1r rnd xs 4 ((rnd xs).norms)
 match Z2C xs.nv ks head xs with
 |none=>.fail "range the head"
 | some inits=>
   let r:=rnd head
   if head.nv=xs.nv+ks.length∧r.lvlOk (xs.nl+1)=true∧pk.all PK.plain=true∧pk.length=ps.length∧Z1f xs.st.objs=true∧Z1f head.st.objs=true then
     .iter xs.nl t inits ks pk (r.bind (Wp xs.nv xs.nl ks head)) (.leaf .norm head)
   else .fail "range"
def Zhf (l:List (OV TK)):Nat:=(l.filter fun o=>match o with| .dead=>true|_=>false).length
def Zha (on:Bool) (xs:XS) (r:R):R:=if !on then r else
 match r.norms with
 | a::b::l=>
   let(head,ks):=Z9r xs.nv xs.nl a (b::l)
   if Z4G xs.nv ks head (a::b::l)&&Zhf head.st.objs==Zhf a.st.objs&&head.nv==xs.nv+ks.length&&r.lvlOk (xs.nl+1)then .join xs.nl ks (r.bind (Wp xs.nv xs.nl ks head)) (.leaf .norm head)else r
 |_=>r
def sx (P:Program) (md:Mode) (top:Bool):Code→XS→R
 | .skip,xs=>.leaf .norm xs
 | .label _,xs=>.leaf .norm xs
 | .scope c,xs=>sx P md top c xs
 | .region _ ops draw,xs=>Zha md.jn xs (Z2I P md ops.toList draw xs)
 | .seq a b,xs=>(sx P md top a xs).bind fun e xs'=>match e with
   | .norm=>sx P md top b xs'
   |e=>.leaf e xs'
 | .cond c a b,xs=>match look xs.st c with
   | .d ⟨t,.bool⟩=>Z5x xs t (sx P md top a xs) (sx P md top b xs)
   |_=>.fail "cond"
 | .block id c,xs=>(sx P md top c xs).bind fun e xs'=>match e with
   | .exit i=>if i=id then .leaf .norm xs' else .leaf (.exit i) xs'
   |e=>.leaf e xs'
 | .loop c,xs=>ZcU (sx P md top c) xs
 | .rangeFunc g ps assign body,xs=>if !top then .fail "range in a round" else
   match thaw xs.st.objs (look xs.st g),Zd8 P assign ps.toList with
   | .d ⟨t,.fn⟩,some pk=>Z9V (sx P md false assign) (sx P md false body) t ps.toList pk xs
   |_,_=>.fail "range the function"
 | .exit id,xs=>.leaf (.exit id) xs
 | .ret,xs=>.leaf .ret xs
 |_,_=>.fail "a form of code"
def ZbX (P:Program) (st:St TK):ResultVar→Option (SV TK)
 | .tmp t=>some (thaw st.objs (st.tmps.getD t .any))
 | .cell a t=>match st.tmps.getD a .any with
   | .ptr o 0=>match st.objs[o]? with
     |some (.box cs)=>if cs.length=P.cellsOf t then(Yq (YN P t) cs).map (thaw st.objs)else none
     |_=>none
   |_=>none
def Z0E (P:Program) (st:St TK):List ResultVar→Option (List (SV TK))
 | []=>some []
 | r::rs=>match ZbX P st r,Z0E P st rs with
   |some v,some vs=>some (v::vs)
   |_,_=>none
def Z2E (nb:List Nat) (objs:List (OV TK)):SV TK→Option Nat
 | .own o=>match objs[o]? with
   |some (.arr ..)=>some o
   |_=>none
 | .ptr o 0=>if nb.contains o then match objs[o]? with
     |some (.box cs)=>if(allD cs).isSome then some o else none
     |_=>none
   else none
 |_=>none
def Z6g (nb:List Nat):List (OV TK)→List (SV TK)→Option (List (Option TK)×List (OV TK))
 |objs,[]=>some ([],objs)
 | objs,v::vs=>match Z2E nb objs v with
   | some _=>match Z6g nb objs vs with
     |some (xs,objs')=>some (none::xs,objs')
     |none=>none
   | none=>match freeze 6 objs v with
     | some (x,objs1)=>match Z6g nb objs1 vs with
       |some (xs,objs')=>some (some x::xs,objs')
       |none=>none
     |none=>none
def Z2b (objs:List (OV TK)):List (SV TK)→List (Option TK)→Option (List (RT×TK))
 | [],[]=>some []
 | v ::vs,x::xs=>match x,Z2b objs vs xs with
   |some x,some rs=>some ((.d x.t,x)::rs)
   | none,some rs=>match v with
     | .own o=>match objs[o]? with
       |some (.arr e y)=>some ((.own e y.t,y)::rs)
       |some (.farr y)=>some ((.d y.t,y)::rs)
       |_=>none
     | .ptr o 0=>match objs[o]? with
       | some (.box cs)=>match allD cs with
         |some xs=>some ((.box (T.list (xs.map (·.t))),⟨T.list (xs.map (·.t)),.agg (xs.map (·.k))⟩)::rs)
         |none=>none
       |_=>none
     |_=>none
   |_,none=>none
 |_,_=>none
def Z3o (nb:List Nat) (objs:List (OV TK)) (vs:List (SV TK)):List Nat:=vs.filterMap (Z2E nb objs)
def JI:List RK→List (RT×TK)→Bool
 | [],[]=>true
 | .own ks::rk,(.own e _,x)::rs=>e==ks.length&&K.beq x.k (.slice ks)&&JI rk rs
 | .box ks::rk,(.box _,x)::rs=>Z6y x (.agg ks)&&JI rk rs
 |_,_=>false
def Zp:Nat→List RK→List (SV TK)
 |_,[]=>[]
 |i,.box _::rk=>.ptr i 0::Zp (i+1) rk
 |i,_::rk=>.own i::Zp (i+1) rk
def Zfd:RT×TK→Bool
 |(.box _,_)=>false
 |_=>true
def Z3V (cs:List (SV TK)):List Nat:=cs.filterMap fun c=>match c with
 | .ptr o 0=>some o
 |_=>none
def JZ (P:Program) (st:St TK) (rs:List ResultVar) (tys:List TypeId) (backs:List (SV TK)) (back:List RK):Option (List RT):=match Z0E P st rs with
 | some us=>
   let vs:=us++backs
   if !(backs.all fun v=>(Z2E (Z3V backs) st.objs v).isSome)then none else
   match Z6g (Z3V backs) st.objs vs with
   | some (xs,objs)=>if(Z3o (Z3V backs) objs vs).length=(nub (Z3o (Z3V backs) objs vs)).length then match Z2b objs vs xs with
       |some os=>if us.length=tys.length&&tys.all (fun t=>(rkOf P t).isSome)&&YJ P tys ((os.take us.length).map (·.2))&&(os.take us.length).all Zfd&&JI back (os.drop us.length)then some (os.map (·.1))else none
       |none=>none
     else none
   |none=>none
 |none=>none
def Z8z (P:Program) (own:Bool) (st:St TK):ResultVar→TypeId→St TK
 | .tmp t,ty=>match st.tmps.getD t .any with
   | .own o=>match st.objs[o]? with
     | some (.view q e ⟨.int .i64 0,.int .i64⟩ ⟨h,.int .i64⟩)=>match st.objs[q]? with
       |some (.arr e' z)=>if e'==e&&(Za3 z.k).isSome then {tmps:=st.tmps.set t (.own st.objs.length),objs:=st.objs.set q .dead++[.arr e' ⟨.sub z.t (.int .i64 0) h,z.k⟩]}else st
       |_=>st
     |_=>st
   | .nil=>if own then(match rkOf P ty with
       |some (.cell (.slice ks))=> {tmps:=st.tmps.set t (.own st.objs.length),objs:=st.objs++[.arr ks.length ⟨.nils,.slice ks⟩]}
       |_=>st)else st
   |_=>st
 |_,_=>st
def Z4k:List (OV TK)→List Nat→Option (List (OV TK))
 |objs,[]=>some objs
 | objs,i::is=>match objs[i]? with
   | some (.box cs)=>match Z0P 6 objs cs with
     | some (xs,objs1)=>match objs1[i]? with
       |some (.box _)=>Z4k (objs1.set i (.box (xs.map .d))) is
       |_=>none
     |none=>none
   |_=>none
def Z50 (P:Program) (own:Bool) (st:St TK):List ResultVar→List TypeId→St TK
 |r::rs,t::ts=>Z50 P own (Z8z P own st r t) rs ts
 |_,_=>st
def Ys:List (OV TK)→Option (Nat×List (SV TK))
 | []=>none
 | .sav cs::_=>some (0,cs)
 | _::l=>match Ys l with
   |some (i,cs)=>some (i+1,cs)
   |none=>none
def ZeX (P :Program) (run:Code→XS→R) (f:FuncId) (vs:List (SV TK)) (o:Oper) (xs:XS):R:=
 if !J2 P f then .fail "inline no body" else
 match P.funcs[f]? with
 |none=>.fail "inline no such function"
 | some fn =>match fn.body with
   |none=>.fail "inline no body"
   | some c=>
     let sv:=(Ys xs.st.objs).getD (xs.st.objs.length,[])
     if !Z1f (xs.st.objs.set sv.1 .dead)then .fail "inline the frames" else
     (run c {st:= {tmps:=vs++List.replicate (fn.ntmps - vs.length) .any,objs:=xs.st.objs.set sv.1 .dead++[.sav (xs.st.tmps++sv.2)]},nv:=xs.nv,nl:=xs.nl}).bind fun e y=>match e with
       | .exit _=>.fail "inline an exit"
       | _ =>match Ys y.st.objs,Z0E P y.st fn.results.toList with
         | some (k,cs),some us=>if Z1f (y.st.objs.set k .dead)then
             .leaf .norm {y with st:= {tmps:=putT (cs.take xs.st.tmps.length) o.dst (Wm us),objs:=y.st.objs.set k .dead++if(Ys xs.st.objs).isSome then [.sav (cs.drop xs.st.tmps.length)]else []}}
           else .fail "inline a frame"
         |_,_=>.fail "inline the results"
def Mode.deep (P:Program) (md:Mode):Nat→Mode
 |0=> {md with inl:=fun _=>none}
 |n+1=> {md with inl:=fun f=>if md.ins.contains f then some (ZeX P (sx P (md.deep P n) true) f)else none}
def Z8S (P:Program) (md:Mode) (f:FuncId) (pk:List PK) (upd:Bool):R:=
 match P.funcs[f]? with
 |none=>.fail "no such function"
 | some fn =>match fn.body with
   |none=>.fail "no body"
   | some c=>
     let ps:=Z2 0 0 pk
     let xs:XS:= {st:= {tmps:=ps++List.replicate (fn.ntmps - ps.length) .any,objs:=W6 0 pk++if upd then [.sav (Zp 0 (Ya pk))]else []},nv:=(Y1 pk).length,nl:=0}
     (sx P (md.deep P md.dep) true c xs).bind fun e xs'=>match e with
       | .exit _=>.fail "an exit"
       | _ =>match(if upd then Ys xs'.st.objs else some (0,[]))with
         |none=>.fail "the frame"
         |some (_,cs)=>match Z4k xs'.st.objs (Z3V cs)with
         |none=>.fail "the boxes"
         | some objs=>match JZ P (Z50 P (md.own.contains f) ⟨xs'.st.tmps,objs⟩ fn.results.toList fn.resultTypes.toList) fn.results.toList fn.resultTypes.toList cs (if upd then Ya pk else [])with
           |some rs=>.ret rs
           |none=>.fail "the results"
def sxFn (P:Program) (md:Mode) (f:FuncId) (pk:List PK):R:=if pk.all PK.plain then Z8S P md f pk false else .fail "parameters"
def Z9W (P:Program) (md:Mode) (f:FuncId) (pk:List PK):R:=
 match P.funcs[f]? with
 |none=>.fail "no such function"
 | some fn=>match fn.body with
   |none=>.fail "no body"
   | some c=>
     let ps:=.own 0::Z2 0 0 pk
     let xs:XS:= {st:= {tmps:=ps++List.replicate (fn.ntmps - ps.length) .any,objs:=[.yld]},nv:=(Y1 pk).length,nl:=0}
     if !pk.all PK.plain||!fn.results.isEmpty then .fail "an iterator" else
     (sx P (md.deep P 0) true c xs).bind fun e _=>match e with
       | .exit _=>.fail "an exit"
       |_=>.ret []
end Go.Sx
namespace Go.Sx
open Go Go.RowKit
abbrev Spec:=List D→(List RV→Prop)→Prop
inductive RepR (m:Mem) (w:World) (B:Nat→Prop):RV→Value→Prop
 |d {x:D} {v:Value} (h:RepD m x v):RepR m w B (.d x) v
 |none {e:Nat} {a:Option Addr}:RepR m w B (.own e []) (.slice a 0 0)
 |any {v:Value}:RepR m w B .any v
 |box {cs:List D} {b:Nat} {arr:Array Value} {t:TypeId} (hB:B b) (hm:m b=none) (hb:w.heap[b]? =some (.cells arr t (0,0))) (hsz:arr.size=cs.length)
     (hv:∀(j:Nat) d v,cs[j]? =some d→arr[j]? =some v→RepD m d v):RepR m w B (.box cs) (.pointer (some ⟨b,0,none⟩))
 |own {e:Nat} {xs:List (List D)} {b c:Nat} {arr:Array Value} {t:TypeId} (hB:B b) (hm:m b=none) (hb:w.heap[b]? =some (.cells arr t (0,0)))
     (h0:0 < c) (hc:xs.length≤c) (hcc:c≤maxLen) (hcap:xs.length≤cap) (hsz:arr.size=c * e) (he:∀x∈xs,x.length=e)
     (hv:∀(i j:Nat) x d v,xs[i]? =some x→x[j]? =some d→arr[i * e+j]? =some v→RepD m d v):RepR m w B (.own e xs) (.slice (some ⟨b,0,none⟩) xs.length c)
def RV.isOwn:RV→Bool
 | .own ..=>true
 | .box _=>true
 |_=>false
structure RepRs (m:Mem) (w:World) (B:Nat→Prop) (rs:List RV) (us:List Value):Prop where
 len:us.length=rs.length
 rep:∀(i:Nat) r u,rs[i]? =some r→us[i]? =some u→RepR m w B r u
 sep:∀(i j:Nat) r r' u u' b,i≠j→rs[i]? =some r→rs[j]? =some r'→us[i]? =some u→us[j]? =some u'→r.isOwn=true→r'.isOwn=true→blk u=some b→blk u'≠some b
def Z2A (us:List Value):Value:=if h:us.toArray.size=1 then us.toArray[0]else .tuple us.toArray
def RetOk (m:Mem) (w:World) (B:Nat→Prop) (rs:List RV) (v:Value):Prop:=∃us:List Value,v=Z2A us∧RepRs m w B rs us
def RK.has:RK→D→Prop
 | .cell k,d=>HasK k d
 | .agg ks,d=>HasK (.agg ks) d
 | .own ks,d=>HasK (.slice ks) d
 | .box ks,d=>HasK (.agg ks) d
 | .any,_=>True
def YM (P:Program):List TypeId→List D→Prop
 |t::tys,d::ds=>(∀rk,rkOf P t=some rk→HasK rk.kind d)∧YM P tys ds
 |_,_=>True
def Zr (P:Program) (f:FuncId) (args:List D):Prop:=∀fn,P.funcs[f]? =some fn→YM P fn.params.toList args
def JW (P:Program) (f:FuncId) (back:List RK) (rs:List RV):Prop:=∀rk,Z8 P false (Zs P f)=some rk→∃ds,RV.all (rk++back) rs=some ds∧HasKs (RK.all (rk++back)) ds
def Contract (P:Program) (f:FuncId) (s:Spec):Prop:=
 J2 P f=true∧
 ∀ (args:List D) (K:List RV→Prop),s args K→Zr P f args→∀(w:World) (m:Mem) (vs:Array Value),MemOk m w→vs.size=args.length→
   (∀(i:Nat) d v,args[i]? =some d→vs[i]? =some v→RepD m d v)→
   Calls P f vs w fun e w'=>∃rs v m',K rs∧JW P f [] rs∧e=.returned v∧RetOk m' w' (fun b=>w.heap.size≤b) rs v∧m.le m'∧MemOk m' w'∧(∀b,b < w.heap.size→m' b=m b)∧BelowD w.heap.size w w'
abbrev SpecX:=List RV→(List RV→Prop)→Prop
def Wc:List PK→List RV→Option (List D)
 | [],[]=>some []
 | .cell _::pk,.d d::ds=>(Wc pk ds).map (d:: ·)
 | .agg ks::pk,.d (.agg cs)::ds=>if cs.length=ks.length then(Wc pk ds).map (cs++ ·)else none
 | .own ks::pk,.own e xs::ds=>if e=ks.length then(Wc pk ds).map (.slice xs:: ·)else none
 | .box ks::pk,.box cs::ds=>if cs.length=ks.length then(Wc pk ds).map (cs++ ·)else none
 | .any::pk,.d _::ds=>Wc pk ds
 |_,_=>none
def Zi (args:List RV) (vs:List Value) (b:Nat):Prop:=∃(i:Nat) (r:RV) (v:Value),args[i]? =some r∧vs[i]? =some v∧r.isOwn=true∧blk v=some b
structure Apart (B:Nat→Prop) (w w':World):Prop where
 os:w'.os=w.os
 tape:w'.tape=w.tape
 output:w'.output=w.output
 drawn:w.drawn≤w'.drawn
 size:w.heap.size≤w'.heap.size
 block:∀b,b < w.heap.size→¬B b→w'.heap[b]? =w.heap[b]?
def W5:List RV→List Value→List Value
 | .own ..::rs,v::vs=>v::W5 rs vs
 | .box _::rs,v::vs=>v::W5 rs vs
 | .d _::rs,_::vs=>W5 rs vs
 | .any::rs,_::vs=>W5 rs vs
 |_,_=>[]
def ContractX (P:Program) (f:FuncId) (pk:List PK) (upd:Bool) (s:SpecX):Prop:=
 J2 P f=true∧
 ∀ (args:List RV) (K:List RV→Prop),s args K→(∃ρ,Wc pk args=some ρ∧HasKs (Y1 pk) ρ)→∀(w:World) (m:Mem) (vs:List Value),MemOk m w→RepRs m w (fun _=>True) args vs→
   Calls P f vs.toArray w fun e w'=>∃rs us v m',K rs∧JW P f (if upd then Ya pk else []) rs∧e=.returned v∧v=Z2A us∧
     RepRs m' w' (fun b=>w.heap.size≤b∨Zi args vs b) rs (us++if upd then W5 args vs else [])∧
     m.le m'∧MemOk m' w'∧(∀b,b < w.heap.size→¬Zi args vs b→m' b=m b)∧Apart (Zi args vs) w w'
def MixC (P:Program) (f:FuncId) (sz:List Nat) (sh:List (Nat×Option Nat)):Prop:=
 J2 P f=true∧∀(vs us:List Value) (w:World),vs.length=sz.length→(∀(i n:Nat) v,sz[i]? =some n→n≠0→vs[i]? =some v→∃a:Array Value,v=.agg a∧a.size=n)→mixL aggV vs sh=some us→(∀u∈us,u.oneCell'=true)→
   Calls P f vs.toArray w fun e w'=>e=.returned (.agg us.toArray)∧BelowD w.heap.size w w'
def FvC (P:Program) (fv:D) (s:Spec):Prop:=match fv with
 | .clo f caps=>J2 P f=true∧∃s',Contract P f s'∧∀as_ K,s as_ K→s' (as_++caps) K∧Zr P f (as_++caps)
 |_=>False
structure YOk (P:Program) (Y:YS):Prop where
 step:∀c O O' m m' W W',Y.J c O m W→(∀b,b < W.heap.size→¬O b→W'.heap[b]? =W.heap[b]?)→W.heap.size≤W'.heap.size→W'.os=W.os→W'.tape=W.tape→W'.output=W.output→W.drawn≤W'.drawn→
   m.le m'→(∀b,b < W.heap.size→¬O b→m' b=m b)→MemOk m' W'→(∀b,O' b↔(O b∨(W.heap.size≤b∧b < W'.heap.size)))→Y.J c O' m' W'
 yield:∀c x O m W (vs:Array Value),Y.J (some c) O m W→MemOk m W→Y.exp[c]? =some x→vs.size=x.length→(∀(i:Nat) d v,x[i]? =some d→vs[i]? =some v→RepD m d v)→
   YieldAt Fence.wide 0 P Y.l vs W fun e W'=>∃(b:Bool) (m':Mem),e=.returned (.bool b)∧Y.J (if b then some (c+1)else none) O m' W'∧MemOk m' W'∧m.le m'∧
     (∀k,O k→k < W.heap.size→W'.heap[k]? =W.heap[k]?∧m' k=m k)∧W.heap.size≤W'.heap.size∧W'.os=W.os∧W'.tape=W.tape∧W'.output=W.output∧W.drawn≤W'.drawn
def IterL (P:Program) (fv:D) (xs:List (List D)) (lim:Nat→Prop):Prop:=match fv with
 | .clo f caps=>J2 P f=true∧∀(l:Nat) (J:Option Nat→(Nat→Prop)→Mem→World→Prop) (w:World) (m:Mem) (arr:Array Value),(∀n O m W,J (some n) O m W→lim n)→YOk P ⟨true,l,xs,J⟩→J (some 0) (fun _=>False) m w→MemOk m w→
     arr.size=caps.length→(∀(i:Nat) d v,caps[i]? =some d→arr[i]? =some v→RepD m d v)→
     Calls P f (#[.func (.yield l) #[] #[]]++arr) w fun e w'=>(∃v,e=.returned v)∧∃O m' c,J c O m' w'∧(c=none∨c=some xs.length)
 |_=>False
abbrev IterC (P:Program) (fv:D) (xs:List (List D)):Prop:=IterL P fv xs fun _=>True
theorem IterL.mono {P:Program} {fv:D} {xs:List (List D)} {lim lim':Nat→Prop} (h:IterL P fv xs lim) (hl:∀n,lim' n→lim n):IterL P fv xs lim':=by
 cases fv <;> simp only [IterL]at h ⊢
 exact⟨h.1,fun l J w m arr hJ=>h.2 l J w m arr fun n O m W h=>hl n (hJ n O m W h)⟩
structure Ags where
 inv:Nat→Option Nat→List D→Prop
 exp:List (List D)
 cnt:Option Nat
 lim:Nat→Prop
def Jh (ags:Ags) (l:Nat) (p:Option Nat→List D→Prop):Ags:= {ags with inv:=fun n=>if n=l then p else ags.inv n}
def Ags.wc (ags:Ags) (c:Option Nat):Ags:= {ags with cnt:=c}
def Ags.none:Ags:=⟨fun _ _ _=>False,[],.none,fun _=>True⟩
def JL (P:Program) (ρ:List D) (f:Fv) (args:List T) (res:List RK) (J:List D→Prop):Prop:=
 match f with
 | .fn f=>∃s:Spec,Contract P f s∧s (args.map (den ρ)) fun rvs=>∃rs,RV.all res rvs=some rs∧J rs
 | .val t=>∃s:Spec,FvC P (den ρ t) s∧s (args.map (den ρ)) fun rvs=>∃rs,RV.all res rvs=some rs∧HasKs (RK.all res) rs∧J rs
def denR (P:Program) (F:Option Nat→List RV→Prop) (K:Ags→List D→XExit→XS→Prop):R→Ags→List D→Prop
 | .fail _,_,_=>False
 | .need t r,ags,ρ=>den ρ t=.bool true∧denR P F K r ags ρ
 | .fact t r,ags,ρ=>den ρ t=.bool true→denR P F K r ags ρ
 | .ite t a b,ags,ρ=>(den ρ t=.bool true→denR P F K a ags ρ)∧(den ρ t=.bool false→denR P F K b ags ρ)
 | .lets ts r,ags,ρ=>denR P F K r ags (ρ++ts.map (den ρ))
 | .call none f args res r,ags,ρ=>JL P ρ f args res fun rs=>denR P F K r ags (ρ++rs)
 | .call (some c) f args res r,ags,ρ=>∃J:List D→Prop,(den ρ c=.bool true→JL P ρ f args res J)∧
     (den ρ c=.bool false→J (Go.Sx.K.zeros (RK.all res)))∧∀rs,HasKs (RK.all res) rs→J rs→denR P F K r ags (ρ++rs)
 | .loop l inits ks body,ags,ρ=>∃(Inv:Option Nat→List D→Prop) (μ:Option Nat→List D→Nat),Inv ags.cnt (inits.map (den ρ))∧
     ∀c xs,HasKs ks xs→Inv c xs→denR P F K body (Jh (ags.wc c) l fun c' ys=>Inv c' ys∧μ c' ys < μ c xs) (ρ++xs)
 | .again l ts,ags,ρ=>ags.inv l ags.cnt (ts.map (den ρ))
 | .leaf e xs,ags,ρ=>K ags ρ e xs
 | .ret rs,ags,ρ=>F ags.cnt (rs.map (RT.den ρ))
 | .callX upd f args res r,ags,ρ=>∃(pk:List PK) (s:SpecX),ContractX P f pk upd s∧(∃τ,Wc pk (args.map (RT.den ρ))=some τ∧HasKs (Y1 pk) τ)∧(upd=true→res.drop (Zs P f).length=Ya pk)∧
     s (args.map (RT.den ρ)) fun rvs=>∃rs,RV.all res rvs=some rs∧denR P F K r ags (ρ++rs)
 | .yield args r,ags,ρ=>∃c,ags.cnt=some c∧ags.exp[c]? =some (args.map (den ρ))∧∀b:Bool,(b=true→ags.lim (c+1))→denR P F K r (ags.wc (if b then some (c+1)else .none)) (ρ++[.bool b])
 | .guess t r,ags,ρ=>∀b:Bool,(b=true→den ρ t=.bool true)→denR P F K r ags (ρ++[.bool b])
 | .mix f sz sh r,ags,ρ=>MixC P f sz sh∧denR P F K r ags ρ
 | .iter l t inits ks pk body done,ags,ρ=>∃(xs:List (List D)) (Inv:Nat→Option Nat→List D→Prop),IterL P (den ρ t) xs (fun n=>∃c ys,Inv n c ys)∧(∀x∈xs,∃fx,Jr pk x=some fx∧HasKs (Y1 pk) fx)∧Inv 0 ags.cnt (inits.map (den ρ))∧
     (∀i x fx c ys,xs[i]? =some x→Jr pk x=some fx→HasKs (Y1 pk) fx→HasKs ks ys→Inv i c ys→denR P F K body (Jh (ags.wc c) l fun c' zs=>Inv (i+1) c' zs) (ρ++ys++fx))∧
     (∀c ys,HasKs ks ys→Inv xs.length c ys→denR P F K done (ags.wc c) (ρ++ys))
 | .join l ks body cont,ags,ρ=>∃Inv:Option Nat→List D→Prop,denR P F K body (Jh ags l Inv) ρ∧∀c xs,HasKs ks xs→Inv c xs→denR P F K cont (ags.wc c) (ρ++xs)
theorem Wj (P:Program) (F:Option Nat→List RV→Prop) (K:Ags→List D→XExit→XS→Prop) (k:XExit→XS→R):∀(r:R) (ags:Ags) (ρ:List D),
   denR P F K (r.bind k) ags ρ↔denR P F (fun ags ρ e xs=>denR P F K (k e xs) ags ρ) r ags ρ:=by
 intro r;induction r with
 |fail=>intro ags ρ;simp [R.bind,denR]
 |need t r ih=>intro ags ρ;simp [R.bind,denR,ih]
 |fact t r ih=>intro ags ρ;simp [R.bind,denR,ih]
 |ite t a b iha ihb=>intro ags ρ;simp [R.bind,denR,iha,ihb]
 |lets ts r ih=>intro ags ρ;simp [R.bind,denR,ih]
 |call g f args res r ih=>intro ags ρ;cases g <;> simp [R.bind,denR,ih]
 |loop l inits ks b ih=>intro ags ρ;simp [R.bind,denR,ih]
 |again=>intro ags ρ;simp [R.bind,denR]
 |leaf=>intro ags ρ;simp [R.bind,denR]
 |ret=>intro ags ρ;simp [R.bind,denR]
 |callX u f args res r ih=>intro ags ρ;simp [R.bind,denR,ih]
 |yield args r ih=>intro ags ρ;simp [R.bind,denR,ih]
 |guess t r ih=>intro ags ρ;simp [R.bind,denR,ih]
 |mix f sz sh r ih=>intro ags ρ;simp [R.bind,denR,ih]
 |iter l t i ks pk b d ihb ihd=>intro ags ρ;simp [R.bind,denR,ihb,ihd]
 |join l ks b c ihb ihc=>intro ags ρ;simp [R.bind,denR,ihb,ihc]
theorem Zq (P:Program) (F:Option Nat→List RV→Prop) (K:Ags→List D→XExit→XS→Prop) (r:R) (ags:Ags) (ρ:List D):∀ts:List T,
   denR P F K (R.needs ts r) ags ρ↔(∀t∈ts,den ρ t=.bool true)∧denR P F K r ags ρ
 | []=>by simp [R.needs]
 |t::ts=>by simp [R.needs,denR,Zq P F K r ags ρ ts,and_assoc]
theorem ZQ (P:Program) (F:Option Nat→List RV→Prop) (K:Ags→List D→XExit→XS→Prop) (r:R) (ags:Ags) (ρ:List D):∀ts:List T,
   denR P F K (R.facts ts r) ags ρ↔((∀t∈ts,den ρ t=.bool true)→denR P F K r ags ρ)
 | []=>by simp [R.facts]
 | t::ts=>by
   simp only [R.facts,denR,ZQ P F K r ags ρ ts,List.mem_cons,forall_eq_or_imp];exact⟨fun h h'=>h h'.1 h'.2,fun h a b=>h ⟨a,b⟩⟩
def LOk (ρ:List D) (x:TK):Prop:=HasK x.k (den ρ x.t)∧∀rs,den (ρ++rs) x.t=den ρ x.t
def denL (ρ:List D) (x:TK):D:=den ρ x.t
def W0 (ρ:List D) (st:St TK):St D:=st.map (denL ρ)
theorem LOk.ext {ρ:List D} {x:TK} (h:LOk ρ x) (rs:List D):LOk (ρ++rs) x:=
 ⟨by rw [h.2];exact h.1,fun qs=>by rw [List.append_assoc,h.2,h.2]⟩
def Stb (ρ:List D) (x:TK):Prop:=∀rs,den (ρ++rs) x.t=den ρ x.t
theorem Stb.ext {ρ:List D} {x:TK} (h:Stb ρ x) (rs:List D):Stb (ρ++rs) x:=fun qs=>by rw [List.append_assoc,h,h]
inductive SV.Ok (ρ:List D):SV TK→Prop
 |d {x:TK} (h:LOk ρ x):SV.Ok ρ (.d x)
 |nil:SV.Ok ρ .nil
 |agg {cs:List (SV TK)} (h:∀c∈cs,SV.Ok ρ c):SV.Ok ρ (.agg cs)
 |tup {cs:List (SV TK)} (h:∀c∈cs,SV.Ok ρ c):SV.Ok ρ (.tup cs)
 |elt {s i:TK} {off:Nat} (hs:LOk ρ s) (hi:LOk ρ i):SV.Ok ρ (.elt s i off)
 |ptr {o off:Nat}:SV.Ok ρ (.ptr o off)
 |bnd {f:FuncId} {o:Nat}:SV.Ok ρ (.bnd f o)
 |bptr {o n:Nat} {i:TK} (hi:LOk ρ i):SV.Ok ρ (.bptr o i n)
 |oelt {o e off:Nat} {i:TK} (hi:LOk ρ i):SV.Ok ρ (.oelt o i e off)
 |own {o:Nat}:SV.Ok ρ (.own o)
 |clo {f:FuncId} {cs:List (SV TK)} (h:∀c∈cs,SV.Ok ρ c):SV.Ok ρ (.clo f cs)
 |grd {c:TK} {v:SV TK} (hc:LOk ρ c) (hs:SV.All (Stb ρ) v) (hv:den ρ c.t=.bool true→SV.Ok ρ v):SV.Ok ρ (.grd c v)
 |any:SV.Ok ρ .any
theorem SV.Ok.stb {ρ:List D} {v:SV TK} (h:SV.Ok ρ v):SV.All (Stb ρ) v:=by
 induction h with
 |d h=>exact .d h.2
 |nil=>exact .nil
 |agg _ ih=>exact .agg ih
 |tup _ ih=>exact .tup ih
 |elt hs hi=>exact .elt hs.2 hi.2
 |ptr=>exact .ptr
 |bnd=>exact .bnd
 |bptr hi=>exact .bptr hi.2
 |oelt hi=>exact .oelt hi.2
 |own=>exact .own
 |clo _ ih=>exact .clo ih
 |grd hc hs _ _=>exact .grd hc.2 hs
 |any=>exact .any
theorem SV.Ok.ext {ρ:List D} {v:SV TK} (h:SV.Ok ρ v) (rs:List D):SV.Ok (ρ++rs) v:=by
 induction h with
 |d h=>exact .d (h.ext rs)
 |nil=>exact .nil
 |agg _ ih=>exact .agg ih
 |tup _ ih=>exact .tup ih
 |elt hs hi=>exact .elt (hs.ext rs) (hi.ext rs)
 |ptr=>exact .ptr
 |bnd=>exact .bnd
 |bptr hi=>exact .bptr (hi.ext rs)
 |oelt hi=>exact .oelt (hi.ext rs)
 |own=>exact .own
 |clo _ ih=>exact .clo ih
 |grd hc hs _ ih=>exact .grd (hc.ext rs) (hs.mono fun x hx=>Stb.ext hx rs) fun h=>ih (by rw [←hc.2 rs];exact h)
 |any=>exact .any
inductive OV.Ok (ρ:List D):OV TK→Prop
 |box {cs:List (SV TK)} (h:∀c∈cs,SV.Ok ρ c):OV.Ok ρ (.box cs)
 |arr {e:Nat} {x:TK} (h:LOk ρ x):OV.Ok ρ (.arr e x)
 |fbox {cs:List TK} (h:∀c∈cs,LOk ρ c):OV.Ok ρ (.fbox cs)
 |farr {x:TK} (h:LOk ρ x):OV.Ok ρ (.farr x)
 |mp {x:TK} (h:LOk ρ x):OV.Ok ρ (.mp x)
 |view {q e:Nat} {lo hi:TK} (hl:LOk ρ lo) (hh:LOk ρ hi):OV.Ok ρ (.view q e lo hi)
 |yld:OV.Ok ρ .yld
 |sav {cs:List (SV TK)} (h:∀c∈cs,SV.Ok ρ c):OV.Ok ρ (.sav cs)
 |dead:OV.Ok ρ .dead
theorem OV.Ok.ext {ρ:List D} {v:OV TK} (h:OV.Ok ρ v) (rs:List D):OV.Ok (ρ++rs) v:=by
 cases h with
 |box hb=>exact .box fun c hc=>(hb c hc).ext rs
 |arr h=>exact .arr (h.ext rs)
 |fbox h=>exact .fbox fun c hc=>(h c hc).ext rs
 |farr h=>exact .farr (h.ext rs)
 |mp h=>exact .mp (h.ext rs)
 |view hl hh=>exact .view (hl.ext rs) (hh.ext rs)
 |yld=>exact .yld
 |sav hb=>exact .sav fun c hc=>(hb c hc).ext rs
 |dead=>exact .dead
theorem OV.Ok.stb {ρ:List D} {v:OV TK} (h:OV.Ok ρ v):OV.All (Stb ρ) v:=by
 cases h with
 |box hb=>exact .box fun c hc=>(hb c hc).stb
 |arr h=>exact .arr h.2
 |fbox h=>exact .fbox fun c hc=>(h c hc).2
 |farr h=>exact .farr h.2
 |mp h=>exact .mp h.2
 |view hl hh=>exact .view hl.2 hh.2
 |yld=>exact .yld
 |sav hb=>exact .sav fun c hc=>(hb c hc).stb
 |dead=>exact .dead
structure St.Ok (ρ:List D) (st:St TK):Prop where
 tmps:∀v∈st.tmps,SV.Ok ρ v
 objs:∀o∈st.objs,OV.Ok ρ o
theorem St.Ok.ext {ρ:List D} {st:St TK} (h:st.Ok ρ) (rs:List D):st.Ok (ρ++rs):=⟨fun v hv=>(h.tmps v hv).ext rs,fun o ho=>(h.objs o ho).ext rs⟩
theorem St.Ok.stb {ρ:List D} {st:St TK} (h:st.Ok ρ):st.All (Stb ρ):=⟨fun v hv=>(h.tmps v hv).stb,fun o ho=>(h.objs o ho).stb⟩
theorem Jw {ρ:List D} {st:St TK} (h:st.Ok ρ) (rs:List D):W0 (ρ++rs) st=W0 ρ st:=
 St.map_congr (h.stb.mono fun _ hx=>hx rs)
theorem T.under_ok {ρ:List D}:∀ {t:T},t.under ρ.length=true→∀rs,den (ρ++rs) t=den ρ t:=by
 intro t;induction t with
 | var i=>
   intro h rs;simp only [T.under,decide_eq_true_eq]at h;simp only [den,List.getD];rw [List.getElem?_append_left h]
 |int|bool|str|nils|fn|lnil=>intro _ _;rfl
 |o1 o a ih=>intro h rs;simp only [T.under]at h;simp only [den];rw [ih h]
 |o2 o a b iha ihb=>intro h rs;simp only [T.under,Bool.and_eq_true]at h;simp only [den];rw [iha h.1,ihb h.2]
 |idx s i j k iha ihb=>intro h rs;simp only [T.under,Bool.and_eq_true]at h;simp only [den];rw [iha h.1,ihb h.2]
 |ite c a b ihc iha ihb=>intro h rs;simp only [T.under,Bool.and_eq_true]at h;simp only [den];rw [ihc h.1.1,iha h.1.2,ihb h.2]
 |lcons a b iha ihb=>intro h rs;simp only [T.under,Bool.and_eq_true]at h;simp only [den];rw [iha h.1,ihb h.2]
 |push a b iha ihb=>intro h rs;simp only [T.under,Bool.and_eq_true]at h;simp only [den];rw [iha h.1,ihb h.2]
 |upd s i j e ihs ihi ihe=>intro h rs;simp only [T.under,Bool.and_eq_true]at h;simp only [den];rw [ihs h.1.1,ihi h.1.2,ihe h.2]
 |sub s a b ihs iha ihb=>intro h rs;simp only [T.under,Bool.and_eq_true]at h;simp only [den];rw [ihs h.1.1,iha h.1.2,ihb h.2]
 |rep a b iha ihb=>intro h rs;simp only [T.under,Bool.and_eq_true]at h;simp only [den];rw [iha h.1,ihb h.2]
 |sel a b k iha ihb=>intro h rs;simp only [T.under,Bool.and_eq_true]at h;simp only [den];rw [iha h.1,ihb h.2]
 |clo f e ih=>intro h rs;simp only [T.under]at h;simp only [den];rw [ih h]
 |ptr e ih=>intro h rs;simp only [T.under]at h;simp only [den];rw [ih h]
 |fld p j k ih=>intro h rs;simp only [T.under]at h;simp only [den];rw [ih h]
 |padd p n ih=>intro h rs;simp only [T.under]at h;simp only [den];rw [ih h]
mutual
theorem SV.closed_ok {ρ:List D}:∀ {v:SV TK},v.closed ρ.length=true→SV.All (Stb ρ) v
 | .d x,h=>.d fun rs=>T.under_ok h rs
 | .nil,_=>.nil
 | .ptr ..,_=>.ptr
 | .bnd ..,_=>.bnd
 | .bptr _ i _,h=>.bptr fun rs=>T.under_ok h rs
 | .own _,_=>.own
 | .any,_=>.any
 | .agg cs,h=>.agg (SV.closedL_ok (by simpa [SV.closed]using h))
 | .tup cs,h=>.tup (SV.closedL_ok (by simpa [SV.closed]using h))
 | .elt s i _,h=>by
   simp only [SV.closed,Bool.and_eq_true]at h;exact .elt (fun rs=>T.under_ok h.1 rs) (fun rs=>T.under_ok h.2 rs)
 | .oelt _ i _ _,h=>.oelt fun rs=>T.under_ok h rs
 | .clo _ cs,h=>.clo (SV.closedL_ok (by simpa [SV.closed]using h))
 | .grd c v,h=>by
   simp only [SV.closed,Bool.and_eq_true]at h;exact .grd (fun rs=>T.under_ok h.1 rs) (SV.closed_ok h.2)
theorem SV.closedL_ok {ρ:List D}:∀ {cs:List (SV TK)},SV.closedL ρ.length cs=true→∀c∈cs,SV.All (Stb ρ) c
 | [],_=>by simp
 | c::cs,h=>
   have h':SV.closed ρ.length c=true∧SV.closedL ρ.length cs=true:=by simpa only [SV.closedL,Bool.and_eq_true]using h
   have h1:=SV.closed_ok h'.1;have h2:=SV.closedL_ok h'.2
   fun c' hc'=>(List.mem_cons.1 hc').elim (fun e=>e▸h1) (h2 c')
end
structure XOk (ρ:List D) (xs:XS):Prop where
 all:xs.st.Ok ρ
 nv:ρ.length=xs.nv
theorem Yc {α:Type} {a:Array α} {i j:Nat} {x y:α} (h:(a.setIfInBounds i x)[j]? =some y):(i=j∧y=x∧j < a.size)∨(i≠j∧a[j]? =some y):=by
 rw [Array.getElem?_setIfInBounds]at h;split at h
 · rename_i hij;subst hij;split at h
   · simp at h;exact .inl ⟨rfl,h.symm,by assumption⟩
   · simp at h
 · exact .inr ⟨by assumption,h⟩
theorem Y0 {α:Type} {l:List α} {i j:Nat} {x y:α} (h:(l.set i x)[j]? =some y):(i=j∧y=x∧j < l.length)∨(i≠j∧l[j]? =some y):=by
 rw [List.getElem?_set]at h;split at h
 · rename_i hij;subst hij;split at h
   · simp at h;exact .inl ⟨rfl,h.symm,by assumption⟩
   · simp at h
 · exact .inr ⟨by assumption,h⟩
section
variable {E:Env} {σ:Names} {m:Mem} {st:St D} {a:Act} {w:World}
theorem Fits.put (h:Fits E σ m st a w) (dst:Option Tmp) {s:SV D} {v:Value} (hs:RepS σ m s v):Fits E σ m ⟨putT st.tmps dst s,st.objs⟩ (a.put dst v) w:=by
 cases dst with
 |none=>exact h
 | some d=>
   exact { sz:=by simp [putT,Act.put,h.sz]
           tm:=by
             intro i s' v' h1 h2;simp only [putT,Act.put]at h1 h2;rcases Y0 h1 with⟨rfl,rfl,_⟩|⟨hne,h1⟩
             · rcases Yc h2 with⟨_,rfl,_⟩|⟨hne,_⟩
               · exact hs
               · exact absurd rfl hne
             · rcases Yc h2 with⟨he,_⟩|⟨_,h2⟩
               · exact absurd he hne
               · exact h.tm i s' v' h1 h2
           dfr:=h.dfr,yld:=h.yld,sav:=h.sav,mem:=h.mem,le:=h.le,objs:=h.objs,sep:=h.sep,inj:=h.inj,dom:=h.dom,grow:=h.grow,keep:=h.keep,old:=h.old,os:=h.os,tape:=h.tape,output:=h.output,drawn:=h.drawn}
theorem RepO.keep {w':World} {o:Nat} {ov:OV D} (h:RepO σ m w o ov) (hk:∀b,ov.alive=true→(σ o).bind blk=some b→w'.heap[b]? =w.heap[b]?):RepO σ m w' o ov:=by
 cases h with
 |box hs hb hsz hv=>exact .box hs (by rw [hk _ rfl (by simp [hs,blk])];exact hb) hsz hv
 |none hs=>exact .none hs
 |arr hs hb h0 hc hcc hcap hsz he hv=>exact .arr hs (by rw [hk _ rfl (by simp only [hs,Option.bind_some];exact Z9 h0)];exact hb) h0 hc hcc hcap hsz he hv
 |fbox hs h=>exact .fbox hs h
 |farr hs h=>exact .farr hs h
 |mp hs hb h=>exact .mp hs (by rw [hk _ rfl (by simp [hs,blk])];exact hb) h
 |view hq hs h1 h2 h3=>exact .view hq hs h1 h2 h3
 |yld hs=>exact .yld hs
 |sav hs hsz hv=>exact .sav hs hsz hv
 |dead=>exact .dead
theorem RepO.mono {σ':Names} {m':Mem} {o:Nat} {ov:OV D} (h:RepO σ m w o ov) (hn:σ.le σ') (hm:m.le m'):RepO σ' m' w o ov:=by
 cases h with
 |box hs hb hsz hv=>exact .box (hn _ _ hs) hb hsz fun i c v a b=>(hv i c v a b).mono hn hm
 |none hs=>exact .none (hn _ _ hs)
 |arr hs hb h0 hc hcc hcap hsz he hv=>exact .arr (hn _ _ hs) hb h0 hc hcc hcap hsz he fun i j x d v a b c=>(hv i j x d v a b c).mono hm
 |fbox hs h=>exact .fbox (hn _ _ hs) (h.mono hm)
 |farr hs h=>exact .farr (hn _ _ hs) (h.mono hm)
 |mp hs hb h=>exact .mp (hn _ _ hs) hb (h.mono hm)
 |view hq hs h1 h2 h3=>exact .view (hn _ _ hq) (hn _ _ hs) h1 h2 h3
 |yld hs=>exact .yld (hn _ _ hs)
 |sav hs hsz hv=>exact .sav (hn _ _ hs) hsz fun i c v a b=>(hv i c v a b).mono hn hm
 |dead=>exact .dead
def holds:Obj→Bool
 | .cells ..| .map ..=>true
 |_=>false
theorem RepO.cells {o:Nat} {ov:OV D} {b:Nat} (h:RepO σ m w o ov) (ha:ov.alive=true) (hb:(σ o).bind blk=some b):∃ob,w.heap[b]? =some ob∧holds ob=true:=by
 cases h with
 |box hs hh=>simp [hs,blk]at hb;subst hb;exact⟨_,hh,rfl⟩
 |none hs=>simp [hs,Zn]at hb
 |arr hs hh h0=>simp only [hs,Option.bind_some,Z9 h0,Option.some.injEq]at hb;subst hb;exact⟨_,hh,rfl⟩
 |mp hs hh=>simp [hs,blk]at hb;subst hb;exact⟨_,hh,rfl⟩
 |view=>simp [OV.alive]at ha
 |fbox=>simp [OV.alive]at ha
 |farr=>simp [OV.alive]at ha
 |yld=>simp [OV.alive]at ha
 |sav=>simp [OV.alive]at ha
 |dead=>simp [OV.alive]at ha
theorem RepO.lt {o:Nat} {ov:OV D} {b:Nat} (h:RepO σ m w o ov) (ha:ov.alive=true) (hb:(σ o).bind blk=some b):b < w.heap.size:=by
 obtain⟨_,hh,_⟩:=h.cells ha hb;exact(Array.getElem?_eq_some_iff.1 hh).1
theorem MemOk.lt (h:MemOk m w) {b:Nat} {o:Obj} (hb:m b=some o):b < w.heap.size:=(Array.getElem?_eq_some_iff.1 (h b o hb)).1
theorem Fits.world (h:Fits E σ m st a w) {w':World} {row:Option Nat} (hg:Grown w w' row) (hr:∀b,row=some b→w.heap.size≤b):Fits E σ m st a w':=by
 have hb:∀b,b < w.heap.size→w'.heap[b]? =w.heap[b]?:=fun b hlt=>hg.block b hlt (fun e=>by have:=hr b e.symm;omega)
 exact { sz:=h.sz,tm:=h.tm,dfr:=h.dfr.keep (fun D hD=>by rw [hb D (Array.getElem?_eq_some_iff.1 hD).1];exact hD) (fun _ _ h=>h),yld:=h.yld,sav:=h.sav
         mem:=fun b o hm=>by rw [hb b (h.mem.lt hm)];exact h.mem b o hm
         le:=h.le
         objs:=fun o ov ho=>(h.objs o ov ho).keep fun b ha hbb=>hb b ((h.objs o ov ho).lt ha hbb)
         sep:=h.sep,inj:=h.inj,dom:=h.dom
         grow:=Nat.le_trans h.grow hg.size
         keep:=fun b hlt hm=>by rw [hb b (Nat.lt_of_lt_of_le hlt h.grow)];exact h.keep b hlt hm
         old:=h.old
         os:=hg.os.trans h.os,tape:=hg.tape.trans h.tape,output:=hg.output.trans h.output,drawn:=Nat.le_trans h.drawn hg.drawn}
theorem Grown.alloc (w:World) (o:Obj):Grown w (w.alloc o) none:=
 have h:=World.grownBy_alloc w o none
 ⟨h.os,h.tape,h.output,h.size,h.block,Nat.le_refl _⟩
theorem Fits.drew (h:Fits E σ m st a w):Fits E σ m st a {w with drawn:=w.drawn+1}:=
 h.world (row:=none) ⟨rfl,rfl,rfl,Nat.le_refl _,fun _ _ _=>rfl,Nat.le_succ _⟩ (by simp)
theorem Fits.update (h:Fits E σ m st a w) {w':World} {o:Nat} {ov ov':OV D} {b:Nat} (ho:st.objs[o]? =some ov) (ha:ov.alive=true) (hb:(σ o).bind blk=some b)
   (hg:Grown w w' (some b)) (h':RepO σ m w' o ov') (hd:ov'.alive=true∨ov'=.dead):Fits E σ m ⟨st.tmps,st.objs.set o ov'⟩ a w':=by
 have hlt:=(h.objs o ov ho).lt ha hb;have hs:=h.sep o ov b ho ha hb;obtain⟨ob0,hcells,hho⟩:=(h.objs o ov ho).cells ha hb
 exact { sz:=h.sz,tm:=h.tm
         dfr:=h.dfr.keep (fun D hD=>by
           have:D≠b:=by intro e;subst e;rw [hcells]at hD;cases hD;cases hho
           rw [hg.block D (Array.getElem?_eq_some_iff.1 hD).1 (fun e=>this (by simpa using e))];exact hD) (fun _ _ h=>h)
         yld:=fun o' ho'=>by
           simp only at ho';rcases Y0 ho' with⟨rfl,he,_⟩|⟨_,ho'⟩
           · rcases hd with hd|hd <;> simp [←he,OV.alive]at hd
           · exact h.yld o' ho'
         sav:=fun o' cs ho'=>by
           simp only at ho';rcases Y0 ho' with⟨rfl,he,_⟩|⟨_,ho'⟩
           · rcases hd with hd|hd <;> simp [←he,OV.alive]at hd
           · exact h.sav o' cs ho'
         mem:=fun b' o' hm=>by
           rw [hg.block b' (h.mem.lt hm) (fun e=>by simp at e;subst e;rw [hs.1]at hm;cases hm)];exact h.mem b' o' hm
         le:=h.le
         objs:=fun o' ov1 ho'=>by
           simp only at ho';rcases Y0 ho' with⟨rfl,rfl,_⟩|⟨hne,ho'⟩
           · exact h'
           · refine(h.objs o' ov1 ho').keep fun b' ha' hb'=>hg.block b' ((h.objs o' ov1 ho').lt ha' hb') (fun e=>?_)
             simp at e;subst e;exact hne (h.inj o o' ov ov1 b' ho ho' ha ha' hb hb')
         sep:=fun o' ov1 b' ho' ha' hb'=>by
           simp only at ho';rcases Y0 ho' with⟨rfl,rfl,_⟩|⟨hne,ho'⟩
           · rw [hb]at hb';cases hb';exact hs
           · exact h.sep o' ov1 b' ho' ha' hb'
         inj :=fun o1 o2 v1 v2 b' h1 h2 a1 a2 b1 b2=>by
           simp only at h1 h2;have k1:∃u,st.objs[o1]? =some u∧u.alive=true:=by
             rcases Y0 h1 with⟨rfl,_,_⟩|⟨_,h1⟩
             · exact⟨ov,ho,ha⟩
             · exact⟨v1,h1,a1⟩
           have k2:∃u,st.objs[o2]? =some u∧u.alive=true:=by
             rcases Y0 h2 with⟨rfl,_,_⟩|⟨_,h2⟩
             · exact⟨ov,ho,ha⟩
             · exact⟨v2,h2,a2⟩
           obtain⟨u1,p1,q1⟩:=k1;obtain⟨u2,p2,q2⟩:=k2;exact h.inj o1 o2 u1 u2 b' p1 p2 q1 q2 b1 b2
         dom:=fun o' v hv=>by simpa using h.dom o' v hv
         grow:=Nat.le_trans h.grow hg.size
         keep:=fun b' hlt' hm=>by
           rw [hg.block b' (Nat.lt_of_lt_of_le hlt' h.grow) (fun e=>by simp at e;subst e;exact hs.2.elim (fun h1=>by omega) hm)];exact h.keep b' hlt' hm
         old:=h.old
         os:=hg.os.trans h.os,tape:=hg.tape.trans h.tape,output:=hg.output.trans h.output,drawn:=Nat.le_trans h.drawn hg.drawn}
theorem Fits.kill (h:Fits E σ m st a w) (o:Nat):Fits E σ m ⟨st.tmps,st.objs.set o .dead⟩ a w:=
 { sz:=h.sz,tm:=h.tm,dfr:=h.dfr,mem:=h.mem,le:=h.le
   yld:=fun o' ho'=>by
     simp only at ho';rcases Y0 ho' with⟨rfl,he,_⟩|⟨_,ho'⟩
     · cases he
     · exact h.yld o' ho'
   sav:=fun o' cs ho'=>by
     simp only at ho';rcases Y0 ho' with⟨rfl,he,_⟩|⟨_,ho'⟩
     · cases he
     · exact h.sav o' cs ho'
   objs:=fun o' ov ho'=>by
     simp only at ho';rcases Y0 ho' with⟨rfl,rfl,_⟩|⟨_,ho'⟩
     · exact .dead
     · exact h.objs o' ov ho'
   sep:=fun o' ov b ho' ha hb=>by
     simp only at ho';rcases Y0 ho' with⟨rfl,rfl,_⟩|⟨_,ho'⟩
     · simp [OV.alive]at ha
     · exact h.sep o' ov b ho' ha hb
   inj :=fun o1 o2 v1 v2 b h1 h2 a1 a2 b1 b2=>by
     simp only at h1 h2;rcases Y0 h1 with⟨_,rfl,_⟩|⟨_,h1⟩
     · simp [OV.alive]at a1
     · rcases Y0 h2 with⟨_,rfl,_⟩|⟨_,h2⟩
       · simp [OV.alive]at a2
       · exact h.inj o1 o2 v1 v2 b h1 h2 a1 a2 b1 b2
   dom:=fun o' v hv=>by simpa using h.dom o' v hv
   grow:=h.grow,keep:=h.keep,old:=h.old,os:=h.os,tape:=h.tape,output:=h.output,drawn:=h.drawn}
def Names.add (σ:Names) (n:Nat) (v:Value):Names:=fun o=>if o=n then some v else σ o
theorem Names.le_add {n:Nat} (h:∀(o:Nat) v,σ o=some v→o < n) {n':Nat} (hn:n≤n') (v:Value):σ.le (σ.add n' v):=by
 intro o u hu;have:=h o u hu;simp only [Names.add];rw [if_neg (by omega)];exact hu
theorem Fits.newObj (h:Fits E σ m st a w) {v0:Value} {ov:OV D} (h':RepO (σ.add st.objs.length v0) m w st.objs.length ov)
   (hfree:∀b,blk v0=some b→ov.alive=true→m b=none∧(E.w0.heap.size≤b∨E.mine b)∧∀(o:Nat) ov',st.objs[o]? =some ov'→ov'.alive=true→(σ o).bind blk≠some b)
   (hy:ov=.yld→v0=.func (.yield E.Y.l) #[] #[]:=by simp) (hsv:∀cs,ov=.sav cs→v0=.tuple E.sav:=by simp):
   Fits E (σ.add st.objs.length v0) m ⟨st.tmps,st.objs++[ov]⟩ a w:=by
 have hle:σ.le (σ.add st.objs.length v0):=Names.le_add h.dom (Nat.le_refl _) v0;have hsame:∀o,o < st.objs.length→(σ.add st.objs.length v0) o=σ o:=fun o ho=>by simp only [Names.add];rw [if_neg (by omega)]
 have split:∀(o:Nat) u,(st.objs++[ov])[o]? =some u→(o < st.objs.length∧st.objs[o]? =some u)∨(o=st.objs.length∧u=ov):=by
   intro o u hu;rw [List.getElem?_append]at hu;split at hu
   · exact .inl ⟨by assumption,hu⟩
   · rename_i hn;by_cases he:o=st.objs.length
     · subst he;simp at hu;exact .inr ⟨rfl,hu.symm⟩
     · rw [List.getElem?_eq_none (by simp;omega)]at hu;cases hu
 exact { sz:=h.sz
         tm:=fun i s v a b=>(h.tm i s v a b).mono hle (Mem.le_refl m)
         dfr:=h.dfr,mem:=h.mem,le:=h.le
         yld:=fun o hu=>by
           rcases split o _ hu with⟨hlt,hu⟩|⟨rfl,he⟩
           · rw [hsame o hlt];exact h.yld o hu
           · simp only [Names.add,if_true];rw [hy he.symm]
         sav:=fun o cs hu=>by
           rcases split o _ hu with⟨hlt,hu⟩|⟨rfl,he⟩
           · rw [hsame o hlt];exact h.sav o cs hu
           · simp only [Names.add,if_true];rw [hsv cs he.symm]
         objs:=fun o u hu=>by
           rcases split o u hu with⟨_,hu⟩|⟨rfl,rfl⟩
           · exact(h.objs o u hu).mono hle (Mem.le_refl m)
           · exact h'
         sep :=fun o u b hu ha hb=>by
           rcases split o u hu with⟨hlt,hu⟩|⟨rfl,rfl⟩
           · rw [hsame o hlt]at hb;exact h.sep o u b hu ha hb
           · simp only [Names.add,if_true,Option.bind_some]at hb;exact⟨(hfree b hb ha).1,(hfree b hb ha).2.1⟩
         inj :=fun o1 o2 v1 v2 b h1 h2 a1 a2 b1 b2=>by
           rcases split o1 v1 h1 with⟨l1,g1⟩|⟨e1,f1⟩ <;> rcases split o2 v2 h2 with⟨l2,g2⟩|⟨e2,f2⟩
           · rw [hsame o1 l1]at b1;rw [hsame o2 l2]at b2;exact h.inj o1 o2 v1 v2 b g1 g2 a1 a2 b1 b2
           · subst e2 f2;rw [hsame o1 l1]at b1;simp only [Names.add,if_true,Option.bind_some]at b2;exact absurd b1 ((hfree b b2 a2).2.2 o1 v1 g1 a1)
           · subst e1 f1;rw [hsame o2 l2]at b2;simp only [Names.add,if_true,Option.bind_some]at b1;exact absurd b2 ((hfree b b1 a1).2.2 o2 v2 g2 a2)
           · rw [e1,e2]
         dom:=fun o v hv=>by
           simp only [Names.add]at hv;split at hv
           · rename_i he;subst he;simp
           · have:=h.dom o v hv;simp;omega
         grow:=h.grow,keep:=h.keep,old:=h.old,os:=h.os,tape:=h.tape,output:=h.output,drawn:=h.drawn}
theorem Fits.fresh (h:Fits E σ m st a w) {b:Nat} (hb:w.heap.size≤b):m b=none∧(E.w0.heap.size≤b∨E.mine b)∧∀(o:Nat) ov',st.objs[o]? =some ov'→ov'.alive=true→(σ o).bind blk≠some b:=
 ⟨by cases hm:m b with
     |none=>rfl
     |some o=>have:=h.mem.lt hm;omega,
  .inl (Nat.le_trans h.grow hb),
  fun o ov' ho ha hbb=>by have:=(h.objs o ov' ho).lt ha hbb;omega⟩
theorem Fits.alloc (h:Fits E σ m st a w) (arr:Array Value) (t:TypeId) (v0:Value) (ov:OV D) (hb:∀b,blk v0=some b→b=w.heap.size)
   (h':RepO (σ.add st.objs.length v0) m (w.alloc (.cells arr t)) st.objs.length ov) (hal:ov.alive=true):
   Fits E (σ.add st.objs.length v0) m ⟨st.tmps,st.objs++[ov]⟩ a (w.alloc (.cells arr t)):=by
 have hw:=h.world (Grown.alloc w (.cells arr t)) (by simp);refine hw.newObj h' (fun b hbb _=>?_) (by rintro rfl;cases hal) (by rintro cs rfl;cases hal);obtain rfl:=hb b hbb;obtain⟨h1,h2,h3⟩:=h.fresh (b:=w.heap.size) (Nat.le_refl _);exact⟨h1,h2,h3⟩
def Mem.add (m:Mem) (b:Nat) (o:Obj):Mem:=fun b'=>if b'=b then some o else m b'
theorem Mem.le_add {b:Nat} {o:Obj} (h:m b=none):m.le (m.add b o):=by
 intro b' o' h';simp only [Mem.add];split
 · rename_i he;subst he;rw [h]at h';cases h'
 · exact h'
theorem Fits.freezeObj (h : Fits E σ m st a w) {o b:Nat} {ov ov':OV D} {obj:Obj} (ho:st.objs[o]? =some ov) (ha:ov.alive=true) (hb:(σ o).bind blk=some b) (hw:w.heap[b]? =some obj)
   (hd:ov'.alive=false) (h':RepO σ (m.add b obj) w o ov') (hyv:ov'≠.yld∧∀cs,ov'≠.sav cs:=by simp):Fits E σ (m.add b obj) ⟨st.tmps,st.objs.set o ov'⟩ a w∧m.le (m.add b obj):=by
 have hs:=h.sep o ov b ho ha hb;have hle:m.le (m.add b obj):=Mem.le_add hs.1;refine⟨?_,hle⟩
 exact { sz:=h.sz
         tm:=fun i s v a b=>(h.tm i s v a b).mono (Names.le_refl σ) hle
         dfr:=h.dfr.keep (fun _ h=>h) (fun D hD hn=>by
           obtain⟨ob0,hcells,hho⟩:=(h.objs o ov ho).cells ha hb;simp only [Mem.add];rw [if_neg (by intro e;subst e;rw [hcells]at hD;cases hD;cases hho)];exact hn)
         yld:=fun o' ho'=>by
           simp only at ho';rcases Y0 ho' with⟨rfl,he,_⟩|⟨_,ho'⟩
           · exact absurd he.symm hyv.1
           · exact h.yld o' ho'
         sav:=fun o' cs ho'=>by
           simp only at ho';rcases Y0 ho' with⟨rfl,he,_⟩|⟨_,ho'⟩
           · exact absurd he.symm (hyv.2 cs)
           · exact h.sav o' cs ho'
         mem:=fun b' o' hm=>by
           simp only [Mem.add]at hm;split at hm
           · rename_i he;subst he;cases hm;exact hw
           · exact h.mem b' o' hm
         le:=Mem.le_trans h.le hle
         objs:=fun o' u hu=>by
           simp only at hu;rcases Y0 hu with⟨rfl,rfl,_⟩|⟨_,hu⟩
           · exact h'
           · exact(h.objs o' u hu).mono (Names.le_refl σ) hle
         sep :=fun o' u b' hu ha' hb'=>by
           simp only at hu;rcases Y0 hu with⟨rfl,rfl,_⟩|⟨hne,hu⟩
           · rw [hd]at ha';cases ha'
           · have hs':=h.sep o' u b' hu ha' hb';refine⟨?_,hs'.2⟩;simp only [Mem.add];rw [if_neg (fun e=>hne (h.inj o o' ov u b ho hu ha ha' hb (by rw [←e];exact hb')))];exact hs'.1
         inj :=fun o1 o2 v1 v2 b' h1 h2 a1 a2 b1 b2=>by
           simp only at h1 h2;rcases Y0 h1 with⟨_,rfl,_⟩|⟨_,h1⟩
           · rw [hd]at a1;cases a1
           · rcases Y0 h2 with⟨_,rfl,_⟩|⟨_,h2⟩
             · rw [hd]at a2;cases a2
             · exact h.inj o1 o2 v1 v2 b' h1 h2 a1 a2 b1 b2
         dom:=fun o' v hv=>by simpa using h.dom o' v hv
         grow:=h.grow,keep:=h.keep,old:=fun b' hlt hm'=>by
           simp only [Mem.add]
           rw [if_neg (fun e => by subst e;rcases hs.2 with h1|h1; · omega
                                   · exact hm' h1)]
           exact h.old b' hlt hm'
         os:=h.os,tape:=h.tape,output:=h.output,drawn:=h.drawn}
end
theorem Z8F (k:IntKind) (n:Int):k.min≤k.wrap n∧k.wrap n≤k.max:=by
 cases k <;> simp only [IntKind.min,IntKind.max,IntKind.wrap,IntKind.signed,IntKind.bits] <;> simp <;> (try split) <;> omega
theorem Z0B (k:IntKind) (n:Int) (h1:k.min≤n) (h2:n≤k.max):k.wrap n=n:=by
 cases k <;> simp only [IntKind.min,IntKind.max,IntKind.wrap,IntKind.signed,IntKind.bits]at * <;> simp at * <;> (try split) <;> omega
theorem Z4A (k:IntKind):k.min≤0:=by cases k <;> simp [IntKind.min,IntKind.signed,IntKind.bits]
theorem Z4F (k:IntKind):0≤k.max:=by cases k <;> simp [IntKind.max,IntKind.signed,IntKind.bits]
theorem Z8P (k:IntKind) (x y:Int) (h1:k.min≤x) (h2:x≤k.max):k.min≤x.tmod y∧x.tmod y≤k.max:=by
 have a:=Z4A k;have b:=Z4F k;rcases Int.le_total 0 x with h|h
 · have h3:0≤x.tmod y:=Int.tmod_nonneg y h;have h4:x.tmod y≤x:=by
     rw [Int.tmod_def];have:0≤y * x.tdiv y:=by
       have:=Int.tmod_add_mul_tdiv x y;have h5:=Int.natAbs_tdiv_le_natAbs x y;by_cases hy:0≤y
       · exact Int.mul_nonneg hy (Int.tdiv_nonneg h hy)
       · have:x.tdiv y≤0:=Int.tdiv_nonpos_of_nonneg_of_nonpos h (by omega);exact Int.mul_nonneg_of_nonpos_of_nonpos (by omega) this
     omega
   omega
 · have hx:x.tmod y= -((-x).tmod y):=by rw [Int.neg_tmod];omega
   have h3:0≤(-x).tmod y:=Int.tmod_nonneg y (by omega);have h4:(-x).tmod y≤ -x:=by
     rw [Int.tmod_def];have:0≤y * (-x).tdiv y:=by
       by_cases hy:0≤y
       · exact Int.mul_nonneg hy (Int.tdiv_nonneg (by omega) hy)
       · have:(-x).tdiv y≤0:=Int.tdiv_nonpos_of_nonneg_of_nonpos (by omega) (by omega);exact Int.mul_nonneg_of_nonpos_of_nonpos (by omega) this
     omega
   omega
theorem Z49 (k:IntKind) (x:Int) (n:Nat) (h1:k.min≤x) (h2:x≤k.max):k.min≤x.fdiv (2 ^ n)∧x.fdiv (2 ^ n)≤k.max:=by
 have a:=Z4A k;have b:=Z4F k;have hp:(1:Int)≤2 ^ n:=by
   have:=Int.pow_pos (n:=2) (m:=n) (by omega);omega
 have hd:=Int.mul_fdiv_add_fmod x (2 ^ n);have hm0:=Int.fmod_nonneg_of_pos x (b:=2 ^ n) (by omega);have hm1:=Int.fmod_lt_of_pos x (b:=2 ^ n) (by omega);generalize x.fdiv (2 ^ n)=q at *;generalize x.fmod (2 ^ n)=r at *;generalize (2 ^ n:Int)=p at *;constructor
 · rcases Int.le_total 0 q with h|h
   · omega
   · have:p * q≤1 * q:=Int.mul_le_mul_of_nonpos_right (by omega) h;by_cases hx:0≤x
     · by_cases hq:q=0
       · omega
       · have:q≤ -1:=by omega
         have:p * q≤p * (-1):=Int.mul_le_mul_of_nonneg_left this (by omega);omega
     · have hq2:x≤q:=by
         have:(p - 1) * q≤0:=Int.mul_nonpos_of_nonneg_of_nonpos (by omega) h;have h2:(p - 1) * q=p * q - q:=by rw [Int.sub_mul];omega
         by_cases hq3:q≤ -1
         · have:(p - 1) * q≤(p - 1) * (-1):=Int.mul_le_mul_of_nonneg_left hq3 (by omega);omega
         · omega
       omega
 · rcases Int.le_total 0 q with h|h
   · have:1 * q≤p * q:=Int.mul_le_mul_of_nonneg_right (by omega) h;omega
   · omega
theorem HasK.int_inv {k:IntKind} {d:D} (h:HasK (.int k) d):∃n,d=.int k n∧k.min≤n∧n≤k.max:=by
 cases d <;> simp [HasK]at h
 obtain⟨rfl,h1,h2⟩:=h;exact⟨_,rfl,h1,h2⟩
theorem HasK.bool_inv {d:D} (h:HasK .bool d):∃b,d=.bool b:=by
 cases d <;> simp [HasK]at h
 exact⟨_,rfl⟩
theorem HasK.str_inv {d:D} (h:HasK .str d):∃s,d=.str s:=by
 cases d <;> simp [HasK]at h
 exact⟨_,rfl⟩
theorem HasK.slice_inv {ks:List K} {d:D} (h:HasK (.slice ks) d):∃xs,d=.slice xs∧∀x∈xs,HasKs ks x:=by
 cases d <;> simp [HasK]at h
 exact⟨_,rfl,h⟩
theorem HasK.fn_inv {d:D} (h:HasK .fn d):∃f caps,d=.clo f caps:=by
 cases d <;> simp [HasK]at h
 exact⟨_,_,rfl⟩
theorem HasK.ptr_inv {ks:List K} {d:D} (h:HasK (.ptr ks) d):∃cs,d=.ptr cs∧HasKs ks cs:=by
 cases d <;> simp [HasK]at h
 exact⟨_,rfl,h⟩
theorem HasK.mp_inv {ks:List K} {d:D} (h:HasK (.mp ks) d):∃xs,d=.mp xs∧∀x∈xs,HasKs ks x:=by
 cases d <;> simp [HasK]at h
 exact⟨_,rfl,h⟩
theorem HasK.mk_bool (b:Bool):HasK .bool (.bool b):=by simp [HasK]
theorem HasK.mk_str (s:List UInt8):HasK .str (.str s):=by simp [HasK]
theorem HasK.mk_int {k:IntKind} {n:Int} (h1:k.min≤n) (h2:n≤k.max):HasK (.int k) (.int k n):=by simp [HasK,h1,h2]
theorem HasK.mk_slice {ks:List K} {xs:List (List D)} (h:∀x∈xs,HasKs ks x):HasK (.slice ks) (.slice xs):=by simpa [HasK]using h
theorem HasK.mk_ptr {ks:List K} {xs:List D} (h:HasKs ks xs):HasK (.ptr ks) (.ptr xs):=by simpa [HasK]using h
theorem HasK.mk_agg {ks:List K} {xs:List D} (h:HasKs ks xs):HasK (.agg ks) (.agg xs):=by simpa [HasK]using h
theorem HasK.mk_fn (f:FuncId) (xs:List D):HasK .fn (.clo f xs):=by simp [HasK]
theorem LOk.mk' {ρ:List D} {t:T} {k:K} {d:D} (e:den ρ t=d) (h:HasK k d) (st:∀rs,den (ρ++rs) t=den ρ t):LOk ρ ⟨t,k⟩:=⟨by show HasK k (den ρ t);rw [e];exact h,st⟩
theorem Z0a (k:IntKind) (n:Int):HasK (.int k) (.int k (k.wrap n)):=by
 simp [HasK,Z8F k n]
section
variable {ρ:List D}
theorem LOk.int (k:IntKind) (n:Int) (h:Z7B k n=true):LOk ρ ⟨.int k n,.int k⟩:=by
 simp [Z7B]at h;exact⟨by simp [HasK,den,h.1,h.2],fun _=>rfl⟩
theorem LOk.bool (b:Bool):LOk ρ ⟨.bool b,.bool⟩:=⟨by simp [HasK,den],fun _=>rfl⟩
theorem LOk.str (s:List UInt8):LOk ρ ⟨.str s,.str⟩:=⟨by simp [HasK,den],fun _=>rfl⟩
theorem LOk.nils (ks:List K):LOk ρ ⟨.nils,.slice ks⟩:=⟨by simp [HasK,den],fun _=>rfl⟩
theorem LOk.fn (f:FuncId):LOk ρ ⟨.fn f,.fn⟩:=⟨by simp [HasK,den],fun _=>rfl⟩
theorem LOk.notB {t:T} (h:LOk ρ ⟨t,.bool⟩):LOk ρ ⟨T.notB t,.bool⟩:=by
 obtain⟨b,hb⟩:=h.1.bool_inv;simp only at hb;exact .mk' (d:=.bool !b) (by simp only [T.notB,den,hb,O1.eval]) (.mk_bool _) (fun rs=>by simp only [T.notB,den,h.2 rs])
theorem LOk.ite {c x y:T} {k:K} (hc:LOk ρ ⟨c,.bool⟩) (hx:LOk ρ ⟨x,k⟩) (hy:LOk ρ ⟨y,k⟩):LOk ρ ⟨.ite c x y,k⟩:=by
 obtain⟨b,hb⟩:=hc.1.bool_inv;simp only at hb;refine⟨?_,fun rs=>by simp only [den];rw [hc.2 rs,hx.2 rs,hy.2 rs]⟩;simp only [den,hb];cases b
 · exact hy.1
 · exact hx.1
theorem LOk.imp {c x:T} (hc:LOk ρ ⟨c,.bool⟩) (hx:LOk ρ ⟨x,.bool⟩):LOk ρ ⟨T.imp c x,.bool⟩:=hc.ite hx (.bool true)
theorem LOk.len {s:T} {k:K} (h:LOk ρ ⟨s,k⟩) (hl:∀xs,den ρ s=.slice xs→xs.length≤cap) (hl':∀xs,den ρ s=.str xs→xs.length≤cap):LOk ρ ⟨.o1 .len s,.int .i64⟩:=by
 refine⟨?_,fun rs=>by simp only [den];rw [h.2 rs]⟩;simp only [den];cases hd:den ρ s <;> simp [O1.eval,HasK,IntKind.min,IntKind.max,IntKind.signed,IntKind.bits]
 · have:=hl' _ hd;simp [cap]at this;omega
 · have:=hl _ hd;simp [cap]at this;omega
theorem LOk.arith {o:O2} {k:IntKind} {a b:T} (ha:LOk ρ ⟨a,.int k⟩) (hb:LOk ρ ⟨b,.int k⟩)
   (ho:o=.add k∨o=.sub k∨o=.mul k∨o=.quo k∨o=.rem k∨o=.and k∨o=.or k∨o=.xor k∨o=.andNot k):LOk ρ ⟨.o2 o a b,.int k⟩:=by
 obtain⟨x,hx,_,_⟩:=ha.1.int_inv;obtain⟨y,hy,_,_⟩:=hb.1.int_inv;simp only at hx hy;refine⟨?_,fun rs=>by simp only [den];rw [ha.2 rs,hb.2 rs]⟩;simp only [den,hx,hy];rcases ho with rfl|rfl|rfl|rfl|rfl|rfl|rfl|rfl|rfl <;> simp only [O2.eval,intBits] <;> exact Z0a _ _
theorem LOk.shift {o:O2} {k k':IntKind} {a b:T} (ha:LOk ρ ⟨a,.int k⟩) (hb:LOk ρ ⟨b,.int k'⟩) (ho:o=.shl k∨o=.shr k):LOk ρ ⟨.o2 o a b,.int k⟩:=by
 obtain⟨x,hx,_,_⟩:=ha.1.int_inv;obtain⟨y,hy,_,_⟩:=hb.1.int_inv;simp only at hx hy;refine⟨?_,fun rs=>by simp only [den];rw [ha.2 rs,hb.2 rs]⟩;simp only [den,hx,hy];rcases ho with rfl|rfl <;> simp only [O2.eval] <;> exact Z0a _ _
def O2.isCmp:O2→Bool
 | .lt| .le| .gt| .ge| .eq| .ne| .band| .bor=>true
 |_=>false
theorem LOk.cmp {o:O2} {k k':K} {a b:T} (ha:LOk ρ ⟨a,k⟩) (hb:LOk ρ ⟨b,k'⟩) (ho:o.isCmp=true):LOk ρ ⟨.o2 o a b,.bool⟩:=by
 refine⟨?_,fun rs=>by simp only [den];rw [ha.2 rs,hb.2 rs]⟩;simp only [den];generalize den ρ a=x;generalize den ρ b=y;cases o <;> simp [O2.isCmp]at ho <;> cases x <;> cases y <;> simp [O2.eval,HasK]
theorem Z8o {ρ:List D}:∀ {t:T} {k' k:K},HasK k' (den ρ t)→Z2B t k' k=true→HasK k (den ρ t):=by
 intro t;have base:∀ {t:T} {k' k:K},HasK k' (den ρ t)→K.beq k' k=true→HasK k (den ρ t):=fun h hb=>by rw [←K.eq_of_beq hb];exact h
 induction t with
 | nils=>
   intro k' k h hn;simp only [Z2B,Bool.or_eq_true]at hn;rcases hn with hn|hn
   · exact base h hn
   · split at hn <;> simp at hn
     simp [den,HasK]
 | lcons a b iha ihb=>
   intro k' k h hn;cases k' with
   | agg ks' =>
     cases ks' with
     |nil=>exact base h (by simpa [Z2B]using hn)
     | cons k1' ks'=>
       cases k with
       | agg ks=>
         cases ks with
         |nil=>exact base h (by simpa [Z2B]using hn)
         | cons k1 ks=>
           simp only [Z2B,Bool.or_eq_true,Bool.and_eq_true]at hn;rcases hn with hn|⟨h1,h2⟩
           · exact base h hn
           · simp only [den,HasK,HasKs]at h ⊢;refine⟨iha h.1 h1,?_⟩;have hb:=h.2;cases hd:den ρ b with
             | agg cs=>
               rw [hd]at hb;have:=ihb (k':=.agg ks') (k:=.agg ks) (by rw [hd];simpa [HasK,D.list]using hb) h2;rw [hd]at this;simpa [HasK,D.list]using this
             | _ =>
               rw [hd]at hb;have e0:ks'=[]:=by cases ks' with|nil=>rfl|cons _ _=>simp [D.list,HasKs]at hb
               subst e0;have:ks=[]:=by
                 cases ks with
                 |nil=>rfl
                 |cons k2 ks=>cases b <;> simp [Z2B]at h2 <;> (try (have:=K.eq_of_beq h2;simp at this))
               subst this;simpa [D.list]using hb
       |_=>exact base h (by simpa [Z2B]using hn)
   |_=>exact base h (by simpa [Z2B]using hn)
 |_=>intro k' k h hn;exact base h (by simpa [Z2B]using hn)
theorem LOk.bytes {a:T} (ha:LOk ρ ⟨a,.str⟩):LOk ρ ⟨.o1 .bytes a,.slice [.int .u8]⟩:=by
 refine⟨?_,fun rs=>by simp only [den];rw [ha.2 rs]⟩;simp only [den];cases hd:den ρ a <;> simp [O1.eval,HasK,HasKs,IntKind.min,IntKind.max,IntKind.signed,IntKind.bits]
 rename_i s;intro x _;have:=x.toNat_lt;omega
theorem LOk.conv {k k':IntKind} {a:T} (ha:LOk ρ ⟨a,.int k'⟩):LOk ρ ⟨.o1 (.conv k) a,.int k⟩:=by
 obtain⟨x,hx,_,_⟩:=ha.1.int_inv;simp only at hx;exact⟨by simp only [den,hx,O1.eval];exact Z0a _ _,fun rs=>by simp only [den];rw [ha.2 rs]⟩
theorem LOk.neg {k:IntKind} {a:T} (ha:LOk ρ ⟨a,.int k⟩):LOk ρ ⟨.o1 (.neg k) a,.int k⟩:=by
 obtain⟨x,hx,_,_⟩:=ha.1.int_inv;simp only at hx;exact⟨by simp only [den,hx,O1.eval];exact Z0a _ _,fun rs=>by simp only [den];rw [ha.2 rs]⟩
theorem LOk.cpl {k:IntKind} {a:T} (ha:LOk ρ ⟨a,.int k⟩):LOk ρ ⟨.o1 (.cpl k) a,.int k⟩:=by
 obtain⟨x,hx,_,_⟩:=ha.1.int_inv;simp only at hx;exact⟨by simp only [den,hx,O1.eval,intBits];exact Z0a _ _,fun rs=>by simp only [den];rw [ha.2 rs]⟩
theorem HasKs.cell {ks:List K} {ds:List D} (h:HasKs ks ds) {j:Nat} {k:K} (hk:ks[j]? =some k):HasK k (D.cell ds j k):=by
 obtain⟨d,hd,hh⟩:=HasKs.get h hk;simp [D.cell,List.getD,hd,hh]
theorem LOk.idx {s i:T} {ks:List K} {ik:K} {j:Nat} {k:K} (hs:LOk ρ ⟨s,.slice ks⟩) (hi:LOk ρ ⟨i,ik⟩) (hk:ks[j]? =some k):LOk ρ ⟨.idx s i j k,k⟩:=by
 obtain⟨xs,hx,he⟩:=hs.1.slice_inv;simp only at hx;refine⟨?_,fun rs=>by simp only [den];rw [hs.2 rs,hi.2 rs]⟩;simp only [den,hx];have hz:HasK k (D.cell [] j k):=by simp [D.cell,HasK.zero]
 cases den ρ i <;> simp only [D.elem] <;> try exact hz
 rename_i n;cases hxi:xs[n.toNat]? with
 |none=>simp [List.getD,hxi];exact hz
 |some x=>simp [List.getD,hxi];exact HasKs.cell (he x (List.mem_of_getElem? hxi)) hk
theorem LOk.fld {p:T} {ks:List K} {j:Nat} {k:K} (hp:LOk ρ ⟨p,.ptr ks⟩) (hk:ks[j]? =some k):LOk ρ ⟨.fld p j k,k⟩:=by
 obtain⟨cs,hc,he⟩:=hp.1.ptr_inv;simp only at hc;refine⟨?_,fun rs=>by simp only [den];rw [hp.2 rs]⟩;simp only [den,hc,D.cells];exact HasKs.cell he hk
theorem HasKs.drop:∀ {ks:List K} {ds:List D} (n:Nat),HasKs ks ds→HasKs (ks.drop n) (ds.drop n)
 |_,_,0,h=>by simpa using h
 | [],[],n+1,_=>by simp [HasKs]
 | [],_::_,_,h=>by simp [HasKs]at h
 |_::_,[],_,h=>by simp [HasKs]at h
 |k::ks,d::ds,n+1,h=>by simp [HasKs]at h;simpa using HasKs.drop n h.2
theorem HasKs.take:∀ {ks:List K} {ds:List D} (n:Nat),HasKs ks ds→HasKs (ks.take n) (ds.take n)
 |_,_,0,_=>by simp [HasKs]
 | [],[],n+1,_=>by simp [HasKs]
 | [],_::_,_,h=>by simp [HasKs]at h
 |_::_,[],_,h=>by simp [HasKs]at h
 |k::ks,d::ds,n+1,h=>by simp [HasKs]at h ⊢;exact⟨h.1,HasKs.take n h.2⟩
theorem LOk.padd {p:T} {ks:List K} {n:Nat} (hp:LOk ρ ⟨p,.ptr ks⟩):LOk ρ ⟨.padd p n,.ptr (ks.drop n)⟩:=by
 obtain⟨cs,hc,he⟩:=hp.1.ptr_inv;simp only at hc;exact .mk' (d:=.ptr (cs.drop n)) (by simp only [den,hc,D.padd]) (.mk_ptr (HasKs.drop n he)) (fun rs=>by simp only [den];rw [hp.2 rs])
theorem W9:∀ts:List T,den ρ (T.list ts)=.agg (ts.map (den ρ))
 | []=>rfl
 |t::ts=>by simp [T.list,den,W9 ts,D.list]
theorem LOk.list {ts:List T} {ks:List K} (h:HasKs ks (ts.map (den ρ))) (hst:∀t∈ts,∀rs,den (ρ++rs) t=den ρ t):LOk ρ ⟨T.list ts,.agg ks⟩:=by
 refine .mk' (W9 ts) (.mk_agg h) fun rs=>?_
 simp only [W9];rw [List.map_congr_left fun t ht=>hst t ht rs]
def LOks (ρ:List D) (ks:List K) (ts:List T):Prop:=HasKs ks (ts.map (den ρ))∧∀t∈ts,∀rs,den (ρ++rs) t=den ρ t
theorem LOks.nil:LOks ρ [] []:=⟨by simp [HasKs],by simp⟩
theorem LOks.cons {k:K} {ks:List K} {t:T} {ts:List T} (h:LOk ρ ⟨t,k⟩) (hs:LOks ρ ks ts):LOks ρ (k::ks) (t::ts):=
 ⟨by simp [HasKs,h.1,hs.1],fun u hu=>by rcases List.mem_cons.1 hu with rfl|hu;exact h.2;exact hs.2 u hu⟩
theorem LOk.push {s:T} {ts:List T} {ks:List K} (hs:LOk ρ ⟨s,.slice ks⟩) (ht:LOks ρ ks ts):LOk ρ ⟨.push s (T.list ts),.slice ks⟩:=by
 obtain⟨xs,hx,he⟩:=hs.1.slice_inv;simp only at hx;refine .mk' (d:=.slice (xs++[ts.map (den ρ)])) (by simp only [den,hx,W9,D.list,D.push]) (.mk_slice ?_) fun rs=>by simp only [den];rw [hs.2 rs,(LOk.list ht.1 ht.2).2 rs]
 intro x hxm;rcases List.mem_append.1 hxm with h|h
 · exact he x h
 · simp at h;subst h;exact ht.1
theorem LOk.app {s t:T} {ks:List K} (hs:LOk ρ ⟨s,.slice ks⟩) (ht:LOk ρ ⟨t,.slice ks⟩):LOk ρ ⟨.o2 .app s t,.slice ks⟩:=by
 obtain⟨xs,hx,he⟩:=hs.1.slice_inv;obtain⟨ys,hy,hf⟩:=ht.1.slice_inv;simp only at hx hy;refine .mk' (d:=.slice (xs++ys)) (by simp only [den,hx,hy,O2.eval]) (.mk_slice ?_) fun rs=>by simp only [den];rw [hs.2 rs,ht.2 rs]
 intro x hxm;rcases List.mem_append.1 hxm with h|h
 · exact he x h
 · exact hf x h
theorem HasKs.split {ks:List K} {x:List D} {j:Nat} {e:List D} (h:HasKs ks x) (he:HasKs ((ks.drop j).take e.length) e) (hj:j+e.length≤ks.length):HasKs ks (Ze x j e):=by
 have h1:=HasKs.append (HasKs.append (HasKs.take j h) he) (HasKs.drop (j+e.length) h);have hk:ks.take j++(ks.drop j).take e.length++ks.drop (j+e.length)=ks:=by
   rw [List.append_assoc, ←List.drop_drop,List.take_append_drop,List.take_append_drop]
 rw [hk]at h1;exact h1
theorem LOk.upd {s i:T} {ks:List K} {ik:K} {j:Nat} {ts:List T} (hs:LOk ρ ⟨s,.slice ks⟩) (hi:LOk ρ ⟨i,ik⟩) (ht:LOks ρ ((ks.drop j).take ts.length) ts) (hj:j+ts.length≤ks.length):
   LOk ρ ⟨.upd s i j (T.list ts),.slice ks⟩:=by
 obtain⟨xs,hx,he⟩:=hs.1.slice_inv;simp only at hx;have e:den ρ (.upd s i j (T.list ts))=(D.slice xs).upd (den ρ i) j (ts.map (den ρ)):=by simp only [den,hx,W9,D.list]
 refine .mk' e ?_ fun rs=>by simp only [den];rw [hs.2 rs,hi.2 rs,(LOk.list ht.1 ht.2).2 rs]
 cases den ρ i <;> simp only [D.upd] <;> try exact HasK.mk_slice he
 refine HasK.mk_slice ?_;intro x hxm;obtain⟨q,hq,rfl⟩:=List.mem_iff_getElem.1 hxm;simp only [List.length_modify]at hq;rw [List.getElem_modify];split
 · exact HasKs.split (he _ (List.getElem_mem hq)) (by simpa using ht.1) (by simpa using hj)
 · exact he _ (List.getElem_mem hq)
theorem LOk.sub {s a b:T} {k ka kb:K} (hk:k=.str∨∃ks,k=.slice ks) (hs:LOk ρ ⟨s,k⟩) (ha:LOk ρ ⟨a,ka⟩) (hb:LOk ρ ⟨b,kb⟩):LOk ρ ⟨.sub s a b,k⟩:=by
 refine⟨?_,fun rs=>by simp only [den];rw [hs.2 rs,ha.2 rs,hb.2 rs]⟩;rcases hk with rfl|⟨ks,rfl⟩
 · obtain⟨l,hl⟩:=hs.1.str_inv;simp only at hl;have e:den ρ (.sub s a b)=(D.str l).sub (den ρ a) (den ρ b):=by simp only [den,hl]
   rw [e];cases den ρ a <;> cases den ρ b <;> simp only [D.sub] <;> exact .mk_str _
 · obtain⟨xs,hx,he⟩:=hs.1.slice_inv;simp only at hx;have e:den ρ (.sub s a b)=(D.slice xs).sub (den ρ a) (den ρ b):=by simp only [den,hx]
   rw [e];cases den ρ a <;> cases den ρ b <;> simp only [D.sub] <;> try exact HasK.mk_slice he
   refine HasK.mk_slice ?_;intro x hxm;exact he x (List.mem_of_mem_take (List.mem_of_mem_drop hxm))
theorem LOk.sidx {s i:T} {k k':K} (hs:LOk ρ ⟨s,k⟩) (hi:LOk ρ ⟨i,k'⟩):LOk ρ ⟨.o2 .sidx s i,.int .u8⟩:=by
 refine⟨?_,fun rs=>by simp only [den];rw [hs.2 rs,hi.2 rs]⟩;simp only [den];cases den ρ s <;> cases den ρ i <;> simp [O2.eval,HasK,IntKind.min,IntKind.max,IntKind.signed,IntKind.bits]
 rename_i l _ n;have:=(l[n.toNat]?.getD 0).toNat_lt;omega
theorem LOk.scat {s i:T} (hs:LOk ρ ⟨s,.str⟩) (hi:LOk ρ ⟨i,.str⟩):LOk ρ ⟨.o2 .scat s i,.str⟩:=by
 obtain⟨x,hx⟩:=hs.1.str_inv;obtain⟨y,hy⟩:=hi.1.str_inv;simp only at hx hy;exact .mk' (d:=.str (x++y)) (by simp only [den,hx,hy,O2.eval]) (.mk_str _) fun rs=>by simp only [den];rw [hs.2 rs,hi.2 rs]
theorem LOk.clo {f:FuncId} {ts:List T} (hst:∀t∈ts,∀rs,den (ρ++rs) t=den ρ t):LOk ρ ⟨.clo f (T.list ts),.fn⟩:=by
 refine .mk' (d:=.clo f (ts.map (den ρ))) (by simp only [den,W9,D.list]) (.mk_fn _ _) fun rs=>?_
 simp only [den,W9];rw [List.map_congr_left fun t ht=>hst t ht rs]
theorem LOk.ptr {ts:List T} {ks:List K} (h:LOks ρ ks ts):LOk ρ ⟨.ptr (T.list ts),.ptr ks⟩:=by
 refine .mk' (d:=.ptr (ts.map (den ρ))) (by simp only [den,W9,D.list]) (.mk_ptr h.1) fun rs=>?_
 simp only [den,W9];rw [List.map_congr_left fun t ht=>h.2 t ht rs]
end
abbrev RS (σ:Names) (m:Mem) (ρ:List D) (v:SV TK) (val:Value):Prop:=RepS σ m (v.map (denL ρ)) val
theorem RepS.d_inv {σ:Names} {m:Mem} {x:D} {v:Value} (h:RepS σ m (.d x) v):RepD m x v:=by cases h;assumption
theorem RepD.int_inv {m:Mem} {k:IntKind} {n:Int} {v:Value} (h:RepD m (.int k n) v):v=.int k n:=by cases h;rfl
theorem RepD.bool_inv {m:Mem} {b:Bool} {v:Value} (h:RepD m (.bool b) v):v=.bool b:=by cases h;rfl
theorem RepD.str_inv {m:Mem} {s:List UInt8} {v:Value} (h:RepD m (.str s) v):v=.string ⟨s.toArray⟩∧s.length≤cap:=by cases h;exact⟨rfl,by assumption⟩
section
variable {E:Env} {ρ:List D} {σ:Names} {m:Mem} {st:St TK} {a:Act} {w:World}
theorem RS.int {t:T} {k:IntKind} {v:Value} (h:RS σ m ρ (.d ⟨t,.int k⟩) v) (hk:LOk ρ ⟨t,.int k⟩):∃n,den ρ t=.int k n∧v=.int k n∧k.min≤n∧n≤k.max:=by
 obtain⟨n,hn,h1,h2⟩:=hk.1.int_inv;simp only at hn;have:=h.d_inv;simp only [denL,hn]at this;exact⟨n,hn,this.int_inv,h1,h2⟩
theorem RS.bool {t:T} {v:Value} (h:RS σ m ρ (.d ⟨t,.bool⟩) v) (hk:LOk ρ ⟨t,.bool⟩):∃b,den ρ t=.bool b∧v=.bool b:=by
 obtain⟨n,hn⟩:=hk.1.bool_inv;simp only at hn;have:=h.d_inv;simp only [denL,hn]at this;exact⟨n,hn,this.bool_inv⟩
theorem RS.str {t:T} {v:Value} (h:RS σ m ρ (.d ⟨t,.str⟩) v) (hk:LOk ρ ⟨t,.str⟩):∃s,den ρ t=.str s∧v=.string ⟨s.toArray⟩∧s.length≤cap:=by
 obtain⟨n,hn⟩:=hk.1.str_inv;simp only at hn;have:=h.d_inv;simp only [denL,hn]at this;exact⟨n,hn,this.str_inv.1,this.str_inv.2⟩
theorem Z5N (v:Value):RS σ m ρ (Z1W v) v∧SV.Ok ρ (Z1W v):=by
 unfold Z1W;split
 · split
   · exact⟨.d (by simp only [denL,den];exact .int _ _),.d (.int _ _ (by assumption))⟩
   · exact⟨.any,.any⟩
 · exact⟨.d (by simp only [denL,den];exact .bool _),.d (.bool _)⟩
 · split
   · rename_i s hs;refine⟨.d ?_,.d (.str _)⟩;have:=RepD.str (m:=m) s.data.toList hs;simpa [denL,den]using this
   · exact⟨.any,.any⟩
 · exact⟨.nil,.nil⟩
 · exact⟨.any,.any⟩
theorem look_ok (hf:Fits E σ m (W0 ρ st) a w) (hok:st.Ok ρ) (x:Operand):RS σ m ρ (look st x) (a.eval x)∧SV.Ok ρ (look st x):=by
 cases x with
 | tmp t=>
   simp only [look,Act.eval];cases hs:st.tmps[t]? with
   |none=>simp [List.getD,hs,RS,SV.map];exact⟨.any,.any⟩
   | some s=>
     have hlt:t < st.tmps.length:=(List.getElem?_eq_some_iff.1 hs).1;have hsz:=hf.sz;simp only [W0,St.map,List.length_map]at hsz;have hlt':t < a.tmps.size:=by rw [hsz];exact hlt
     have hv:a.tmps[t]? =some a.tmps[t]:=by simp [hlt']
     have e1:st.tmps.getD t .any=s:=by simp only [List.getD,hs,Option.getD_some]
     have e2:a.tmps.getD t undef=a.tmps[t]:=by simp [Array.getD,hlt']
     rw [e1,e2];exact⟨hf.tm t (s.map (denL ρ)) _ (by simp [W0,St.map,hs]) hv,hok.tmps s (List.mem_of_getElem? hs)⟩
 |const v=>exact Z5N v
 |global g=>exact⟨.any,.any⟩
 | func f=>
   exact⟨.d (by simp only [denL,den];exact .clo f [] #[] rfl (by simp)),.d (.fn f)⟩
theorem Z8M {g:Option T} (hg:∀c,g=some c→den ρ c=.bool true) {v:SV TK} {val:Value} (h:RS σ m ρ v val) (hk:SV.Ok ρ v):
   RS σ m ρ (Y4 g v) val∧SV.Ok ρ (Y4 g v):=by
 unfold Y4;split
 · rename_i c x y;split
   · rename_i hb;have he:=T.eq_of_beq hb;simp only [RS,SV.map]at h;cases h with
     | grd h'=>
       cases hk with
       |grd _ _ hv=>exact⟨h' (by simp only [denL];rw [he];exact hg _ rfl),hv (by rw [he];exact hg _ rfl)⟩
   · exact⟨h,hk⟩
 · exact⟨h,hk⟩
theorem Z7f (hf:Fits E σ m (W0 ρ st) a w) (hok:st.Ok ρ) {v:SV TK} {val:Value} (h:RS σ m ρ v val) (hk:SV.Ok ρ v):
   RS σ m ρ (thaw st.objs v) val∧SV.Ok ρ (thaw st.objs v):=by
 unfold thaw;split
 · rename_i o;split
   · rename_i x hx;have ho:=hf.objs o (.farr (denL ρ x)) (by simp [W0,St.map,hx,OV.map]);cases ho with
     | farr hs hr=>
       simp only [RS,SV.map]at h;cases h with
       | own h'=>
         rw [hs]at h';cases h';have:=hok.objs _ (List.mem_of_getElem? hx);cases this with
         |farr hx'=>exact⟨.d hr,.d hx'⟩
   · exact⟨h,hk⟩
 · exact⟨h,hk⟩
theorem JR {g:Option T} (hg:∀c,g=some c→den ρ c=.bool true) {c:T} (hc:den ρ c=.bool true) {v:SV TK} {val:Value} (h:RS σ m ρ v val) (hk:SV.Ok ρ v):
   RS σ m ρ (ZS g c v) val∧SV.Ok ρ (ZS g c v):=by
 unfold ZS;split
 · rename_i c' x;have key:den ρ c'.t=.bool true→RS σ m ρ x val∧SV.Ok ρ x:=by
     intro ht;simp only [RS,SV.map]at h;cases h with
     | grd h'=>
       cases hk with
       |grd _ _ hv=>exact⟨h' ht,hv ht⟩
   split
   · rename_i hb;have he:=T.eq_of_beq hb;exact key (by rw [he];exact hc)
   · split
     · rename_i g';split
       · rename_i hb;have he:=T.eq_of_beq hb;exact key (by rw [he];simp only [den,hc,hg _ rfl,O2.eval,Bool.and_self])
       · exact⟨h,hk⟩
     · exact⟨h,hk⟩
 · exact⟨h,hk⟩
theorem Z25 {g:Option T} {c:T} {v:SV TK} (hk:SV.Ok ρ v):SV.All (Stb ρ) (ZS g c v):=by
 unfold ZS;split
 · split
   · cases hk;assumption
   · split
     · split
       · cases hk;assumption
       · exact hk.stb
     · exact hk.stb
 · exact hk.stb
theorem Y5 (hf:Fits E σ m (W0 ρ st) a w) (hok:st.Ok ρ) {g:Option T} (hg:∀c,g=some c→den ρ c=.bool true) (x:Operand):
   RS σ m ρ (thaw st.objs (Y4 g (look st x))) (a.eval x)∧SV.Ok ρ (thaw st.objs (Y4 g (look st x))):=by
 have h1:=look_ok hf hok x;have h2:=Z8M hg h1.1 h1.2;exact Z7f hf hok h2.1 h2.2
def OpOk (E:Env) (ρ:List D) (σ:Names) (m:Mem) (st:St TK) (a:Act) (w:World) (o:Oper) (s:Sym):Prop:=
 ∃ v w' σ' m',σ.le σ'∧m.le m'∧((execOp a.eval o).run E.P w=.ok (.value v) w'∨((execOp a.eval o).run E.P w=.ok .skip w'∧v=undef))∧
   Fits E σ' m' (W0 ρ ⟨st.tmps,s.objs.getD st.objs⟩) a w'∧RS σ' m' ρ s.v v∧SV.Ok ρ s.v∧(∀x∈s.objs.getD st.objs,OV.Ok ρ x)∧
   (∀t∈s.facts,den ρ t=.bool true)∧(s.objs=none→w'=w∧σ'=σ∧m'=m)
theorem OpOk.val (hf:Fits E σ m (W0 ρ st) a w) (hok:st.Ok ρ) {o:Oper} {ns fs:List T} {sv:SV TK} {v:Value} (hr:(execOp a.eval o).run E.P w=.ok (.value v) w)
   (hs:RS σ m ρ sv v) (hk:SV.Ok ρ sv) (hfs:∀t∈fs,den ρ t=.bool true):OpOk E ρ σ m st a w o ⟨ns,fs,sv,none⟩:=
 ⟨v,w,σ,m,Names.le_refl σ,Mem.le_refl m,.inl hr,hf,hs,hk,hok.objs,hfs,fun _=>⟨rfl,rfl,rfl⟩⟩
section ops
variable (hf:Fits E σ m (W0 ρ st) a w) (hok:st.Ok ρ) {g:Option T} (hg:∀c,g=some c→den ρ c=.bool true) {o:Oper} {s:Sym}
include hf hok hg
theorem Zav {x:Operand} (ho:o.op=.move x∨o.op=.assign x) (h:sxOp E.P g st o=some s):OpOk E ρ σ m st a w o s:=by
 have hx:=Y5 hf hok hg x;rcases ho with ho|ho <;> simp only [sxOp,ho,Option.some.injEq]at h <;> subst h <;>
   exact .val hf hok (by simp [execOp,ho]) hx.1 hx.2 (by simp)
theorem Zf9 {c x y:Operand} (ho:o.op=.pick c x y) (h:sxOp E.P g st o=some s):OpOk E ρ σ m st a w o s:=by
 have hc:=Y5 hf hok hg c;have hx:=Y5 hf hok hg x;have hy:=Y5 hf hok hg y;simp only [sxOp,ho]at h;generalize thaw st.objs (Y4 g (look st c))=cc at *;generalize thaw st.objs (Y4 g (look st x))=xx at *;generalize thaw st.objs (Y4 g (look st y))=yy at *;split at h <;> try contradiction
 rename_i tc;have kc:LOk ρ ⟨tc,.bool⟩:=by cases hc.2;assumption
 obtain⟨b,hb,hv⟩:=RS.bool hc.1 kc;split at h <;> try contradiction
 rename_i p q hp hq;split at h <;> try contradiction
 rename_i hk;simp only [Option.some.injEq]at h;subst h;have hk:=K.eq_of_beq hk;have run:(execOp a.eval o).run E.P w=.ok (.value (if b then a.eval x else a.eval y)) w:=by
   simp [execOp,ho,hv,asBool]
 have ax:=Z25 (g:=g) (c:=tc) hx.2;have ay:=Z25 (g:=g) (c:=T.notB tc) hy.2;rw [hp]at ax;rw [hq]at ay;have sp:Stb ρ p:=by cases ax;assumption
 have sq:Stb ρ q:=by cases ay;assumption
 have kl:LOk ρ ⟨.ite tc p.t q.t,p.k⟩:=by
   refine⟨?_,fun rs=>by simp only [den];rw [kc.2 rs,sp rs,sq rs]⟩;cases b with
   | true=>
     have h1:=(JR hg (c:=tc) hb hx.1 hx.2).2;rw [hp]at h1;have h2:LOk ρ p:=by cases h1;assumption
     have h3:=h2.1;show HasK p.k (den ρ (.ite tc p.t q.t));rw [show den ρ (.ite tc p.t q.t)=den ρ p.t from by simp only [den,hb,D.cond]];exact h3
   | false=>
     have h1:=(JR hg (c:=T.notB tc) (by simp [T.notB,den,hb,O1.eval]) hy.1 hy.2).2;rw [hq]at h1;have h2:LOk ρ q:=by cases h1;assumption
     have h3:=h2.1;show HasK p.k (den ρ (.ite tc p.t q.t));rw [show den ρ (.ite tc p.t q.t)=den ρ q.t from by simp only [den,hb,D.cond],hk];exact h3
 refine .val hf hok run ?_ (.d kl) (by simp);cases b with
 | true=>
   have h1:=(JR hg (c:=tc) hb hx.1 hx.2).1;rw [hp]at h1;refine .d ?_;simp only [denL,den,hb,D.cond];exact h1.d_inv
 | false=>
   have h1:=(JR hg (c:=T.notB tc) (by simp [T.notB,den,hb,O1.eval]) hy.1 hy.2).1;rw [hq]at h1;refine .d ?_;simp only [denL,den,hb,D.cond];exact h1.d_inv
end ops
end
theorem WI (s:List UInt8):(⟨s.toArray⟩:ByteArray).toList=s:=by
 simp
theorem Wu (s:List UInt8):(⟨s.toArray⟩:ByteArray).size=s.length:=by simp [ByteArray.size]
theorem Fits.addMem2 {E:Env} {σ:Names} {m:Mem} {st:St D} {a:Act} {w:World} (h:Fits E σ m st a w) {b:Nat} {arr:Array Value} {t:TypeId} {fz:Nat×Nat} (hm:m b=Option.none) (hw:w.heap[b]? =some (.cells arr t fz)) (hge:E.w0.heap.size≤b∨E.mine b)
   (hfree:∀(o:Nat) ov,st.objs[o]? =some ov→ov.alive=true→(σ o).bind blk≠some b):Fits E σ (m.add b (.cells arr t fz)) st a w∧m.le (m.add b (.cells arr t fz)):=by
 have hle:m.le (m.add b (.cells arr t fz)):=Mem.le_add hm;refine⟨?_,hle⟩
 exact { sz:=h.sz
         tm:=fun i s v a b=>(h.tm i s v a b).mono (Names.le_refl σ) hle
         dfr:=h.dfr.keep (fun _ h=>h) (fun D hD hn=>by
           simp only [Mem.add];rw [if_neg (by intro e;subst e;rw [hw]at hD;cases hD)];exact hn)
         yld:=h.yld,sav:=h.sav
         mem:=fun b' o' hm2=>by
           simp only [Mem.add]at hm2;split at hm2
           · rename_i he;subst he;cases hm2;exact hw
           · exact h.mem b' o' hm2
         le:=Mem.le_trans h.le hle
         objs:=fun o' u hu=>(h.objs o' u hu).mono (Names.le_refl σ) hle
         sep:=fun o' u b' hu ha' hb'=>by
           have hs':=h.sep o' u b' hu ha' hb';refine⟨?_,hs'.2⟩;simp only [Mem.add];rw [if_neg (fun e=>hfree o' u hu ha' (by rw [←e];exact hb'))];exact hs'.1
         inj:=h.inj,dom:=h.dom,grow:=h.grow,keep:=h.keep,old:=fun b' hlt hm'=>by
           simp only [Mem.add];rw [if_neg (by intro e;subst e;exact hge.elim (fun h=>by omega) hm')];exact h.old b' hlt hm'
         os:=h.os,tape:=h.tape,output:=h.output,drawn:=h.drawn}
section
variable {E:Env} {ρ:List D} {σ:Names} {m:Mem} {st:St TK} {a:Act} {w:World}
theorem Jc {x:TK} (h:SV.Ok ρ (.d x)):LOk ρ x:=by cases h;assumption
section ops
variable (hf:Fits E σ m (W0 ρ st) a w) (hok:st.Ok ρ) {g:Option T} (hg:∀c,g=some c→den ρ c=.bool true) {o:Oper} {s:Sym}
include hf hok hg
theorem Zf8 {u:UnOp} {t:TypeId} {x:Operand} (ho:o.op=.unOp u t x) (h:sxOp E.P g st o=some s):OpOk E ρ σ m st a w o s:=by
 have hx:=Y5 hf hok hg x;simp only [sxOp,ho]at h;generalize thaw st.objs (Y4 g (look st x))=xx at *;split at h <;> try contradiction
 · rename_i b;have k:=Jc hx.2;obtain⟨v,hv,hb⟩:=RS.bool hx.1 k;simp only [Option.some.injEq]at h;subst h;refine .val hf hok (v:=.bool !v) (by simp [execOp,ho,hb,Op.unary]) (.d ?_) (.d k.notB) (by simp);simp only [denL,T.notB,den,hv,O1.eval];exact .bool _
 · rename_i b q;have k:=Jc hx.2;obtain⟨v,hv,hb,h1,h2⟩:=RS.int hx.1 k;simp only [Option.some.injEq]at h;subst h;refine .val hf hok (v:=.int q (q.wrap (0 - v))) (by simp [execOp,ho,hb,Op.unary,Op.intArith]) (.d ?_) (.d k.neg) (by simp);simp only [denL,den,hv,O1.eval];exact .int _ _
 · rename_i b q;have k:=Jc hx.2;obtain⟨v,hv,hb,h1,h2⟩:=RS.int hx.1 k;simp only [Option.some.injEq]at h;subst h;refine .val hf hok (v:=.int q (intBits .xor q (if q.signed then -1 else q.max) v)) (by simp [execOp,ho,hb,Op.unary,Op.intBits,intBits]) (.d ?_) (.d k.cpl) (by simp);simp only [denL,den,hv,O1.eval];exact .int _ _
theorem Z98 {p q:TypeId} {x:Operand} (ho:o.op=.convert p q x) (h:sxOp E.P g st o=some s):OpOk E ρ σ m st a w o s:=by
 have hx:=Y5 hf hok hg x;simp only [sxOp,ho]at h;generalize thaw st.objs (Y4 g (look st x))=xx at *;split at h <;> try contradiction
 · rename_i k1 k2 b k3 hp hq;have k:=Jc hx.2;obtain⟨v,hv,hb,h1,h2⟩:=RS.int hx.1 k;simp only [Option.some.injEq]at h;subst h;refine .val hf hok (v:=.int k2 (k2.wrap v)) (by simp [execOp,ho,hb,convert,run_underlying hp,run_underlying hq,Conv.intToInt]) (.d ?_) (.d k.conv) (by simp);simp only [denL,den,hv,O1.eval];exact .int _ _
 · rename_i b hp hq;have k:=Jc hx.2;obtain⟨v,hv,hb,h1⟩:=RS.str hx.1 k;simp only [Option.some.injEq]at h;subst h;exact .val hf hok (v:=.string ⟨v.toArray⟩) (by simp [execOp,ho,hb,convert,run_underlying hp,run_underlying hq]) (by rw [←hb];exact hx.1) (.d k) (by simp)
 · rename_i e b hp hq;split at h <;> try contradiction
   rename_i he;have k:=Jc hx.2;obtain⟨v,hv,hb,h1⟩:=RS.str hx.1 k;simp only [Option.some.injEq]at h;subst h;have hbs:((⟨v.toArray⟩:ByteArray).data.map fun b=>Value.int .u8 b.toNat)=(v.map fun c:UInt8=>Value.int .u8 (c.toNat:Nat)).toArray:=by simp
   have hcapge:v.length≤grownCap w (⟨v.toArray⟩:ByteArray).size 0 e:=by
     simp only [grownCap,Question.cut,Wu];omega
   have hcsz:(Go.Lib.bytesCells w e ⟨v.toArray⟩).size=grownCap w (⟨v.toArray⟩:ByteArray).size 0 e:=by
     simp only [Go.Lib.bytesCells,hbs,Array.size_append,Array.size_replicate,List.size_toArray,List.length_map,Wu]at hcapge ⊢;omega
   have hblk:∃fz,(Go.Lib.bytesWorld w e ⟨v.toArray⟩).heap[w.heap.size]? =some (.cells (Go.Lib.bytesCells w e ⟨v.toArray⟩) e fz):=by
     simp only [Go.Lib.bytesWorld,World.freeze];split
     · exact⟨(0,0),by rw [show(w.drew.alloc (Obj.cells (Go.Lib.bytesCells w e ⟨v.toArray⟩) e)).heap=w.heap.push (.cells (Go.Lib.bytesCells w e ⟨v.toArray⟩) e)from rfl];simp⟩
     · refine⟨((Go.Lib.bytesCells w e ⟨v.toArray⟩).size,(Go.Lib.bytesCells w e ⟨v.toArray⟩).size+1),?_⟩;rw [Array.getElem?_modify,if_pos rfl,show(w.drew.alloc (Obj.cells (Go.Lib.bytesCells w e ⟨v.toArray⟩) e)).heap=w.heap.push (.cells (Go.Lib.bytesCells w e ⟨v.toArray⟩) e)from rfl];simp
   obtain⟨fz,hblk⟩:=hblk;have hfr:∀(w1:World) (a:Addr) (n:Nat),(w1.freeze a n).os=w1.os∧(w1.freeze a n).tape=w1.tape∧(w1.freeze a n).output=w1.output∧(w1.freeze a n).heap.size=w1.heap.size∧(w1.freeze a n).drawn=w1.drawn:=by
     intro w1 a n;unfold World.freeze;split <;> simp
   obtain⟨q1,q2,q3,q4,q5⟩:=hfr (w.drew.alloc (.cells (Go.Lib.bytesCells w e ⟨v.toArray⟩) e)) ⟨w.heap.size,(Go.Lib.bytesCells w e ⟨v.toArray⟩).size,none⟩ 1;have hg':Grown w (Go.Lib.bytesWorld w e ⟨v.toArray⟩) none:=by
     refine⟨q1,q2,q3,?_,fun k hk _=>Go.Lib.bytesWorld_at_old w e _ k hk,?_⟩
     · show w.heap.size≤((w.drew.alloc (.cells (Go.Lib.bytesCells w e ⟨v.toArray⟩) e)).freeze _ 1).heap.size;rw [q4];simp [show(w.drew.alloc (Obj.cells (Go.Lib.bytesCells w e ⟨v.toArray⟩) e)).heap=w.heap.push (.cells (Go.Lib.bytesCells w e ⟨v.toArray⟩) e)from rfl]
     · show w.drawn≤((w.drew.alloc (.cells (Go.Lib.bytesCells w e ⟨v.toArray⟩) e)).freeze _ 1).drawn;rw [q5];exact Nat.le_succ _
   have hf1:=hf.world hg' (by simp);have hfree:∀(o:Nat) ov,(W0 ρ st).objs[o]? =some ov→ov.alive=true→(σ o).bind blk≠some w.heap.size:=fun o ov hov hal hbb=>by
     have:=(hf.objs o ov hov).lt hal hbb;omega
   have hnone:m w.heap.size=none:=by
     cases hm:m w.heap.size with
     |none=>rfl
     |some ob=>have:=hf.mem.lt hm;omega
   obtain⟨f1,f2⟩:=hf1.addMem2 hnone hblk (.inl hf.grow) hfree;refine⟨.slice (some ⟨w.heap.size,0,none⟩) v.length (grownCap w (⟨v.toArray⟩:ByteArray).size 0 e),_,σ,_,Names.le_refl σ,f2,.inl ?_,f1,?_,.d k.bytes,hok.objs,by simp,by simp⟩
   · have:=Go.Lib.run_convert_string_bytes w p q e ⟨v.toArray⟩ hp hq he;simp only [execOp,ho,hb];simp [this,Wu]
   · refine .d ?_;simp only [denL,den,hv,O1.eval];have hl:(v.map fun c:UInt8=>[D.int .u8 (c.toNat:Nat)]).length=v.length:=by simp
     have:=RepD.slice (m:=m.add w.heap.size (.cells (Go.Lib.bytesCells w e ⟨v.toArray⟩) e fz)) (v.map fun c:UInt8=>[D.int .u8 (c.toNat:Nat)]) w.heap.size 0 (Go.Lib.bytesCells w e ⟨v.toArray⟩) e fz 1 (grownCap w (⟨v.toArray⟩:ByteArray).size 0 e)
       (by rw [hl];exact hcapge) (by rw [hl];exact h1) (by simp [Mem.add]) (by intro x hx;obtain⟨c,_,rfl⟩:=List.mem_map.1 hx;rfl) (by rw [hl,hcsz];omega)
       (by
         intro i j x d u hi hj hu;simp only [List.getElem?_map,Option.map_eq_some_iff]at hi;obtain⟨c,hc,rfl⟩:=hi;have hlt:=(List.getElem?_eq_some_iff.1 hc).1;cases j with
         |succ j=>simp at hj
         | zero=>
           simp at hj;subst hj;simp only [Go.Lib.bytesCells,hbs,Nat.zero_add,Nat.mul_one,Nat.add_zero]at hu;rw [Array.getElem?_append_left (by simpa using hlt)]at hu;simp [hc]at hu;rw [←hu];exact .int _ _)
     rw [hl]at this;exact this
theorem Zay {op:BinOp} {t yt:TypeId} {x y:Operand} (ho:o.op=.binOp op t x y yt) {p q:T} {k k':IntKind}
   (hx:RS σ m ρ (.d ⟨p,.int k⟩) (a.eval x)) (hy:RS σ m ρ (.d ⟨q,.int k'⟩) (a.eval y)) (kx:LOk ρ ⟨p,.int k⟩) (ky:LOk ρ ⟨q,.int k'⟩)
   (hn:∀t∈s.needs,den ρ t=.bool true)
   (h:(match op with
     | .shl=>some (⟨[.o2 .ge q (.int k' 0)],[],.d ⟨.o2 (.shl k) p q,.int k⟩,none⟩:Sym)
     | .shr=>some ⟨[.o2 .ge q (.int k' 0)],[],.d ⟨.o2 (.shr k) p q,.int k⟩,none⟩
     |_=>if k=k' then(Zfo op k p q).map fun(ns,v)=>⟨ns,[],.d v,none⟩else none)=some s):OpOk E ρ σ m st a w o s:=by
 obtain⟨u,hu,eu,u1,u2⟩:=RS.int hx kx;obtain⟨v,hv,ev,v1,v2⟩:=RS.int hy ky;have geq:∀ {b:T} {r:Value} {kk:K} (hr:(execOp a.eval o).run E.P w=.ok (.value r) w) (hd:RepD m (den ρ b) r) (hk:LOk ρ ⟨b,kk⟩) (ns:List T),OpOk E ρ σ m st a w o ⟨ns,[],.d ⟨b,kk⟩,none⟩:=
   fun hr hd hk ns=>.val hf hok hr (.d hd) (.d hk) (by simp)
 cases op
 case shl=>
   simp only [Option.some.injEq]at h;subst h;have h0:¬v < 0:=by
     have:=hn _ (List.mem_singleton.2 rfl);simp [den,hv,O2.eval]at this;omega
   exact geq (r:=.int k (k.wrap (u * 2 ^ (min v.toNat k.bits)))) (by simp [execOp,ho,eu,ev,eqGuard,binOp,Op.shift,h0]) (by simp only [den,hu,hv,O2.eval];exact .int _ _) (kx.shift ky (.inl rfl)) _
 case shr=>
   simp only [Option.some.injEq]at h;subst h;have h0:¬v < 0:=by
     have:=hn _ (List.mem_singleton.2 rfl);simp [den,hv,O2.eval]at this;omega
   have hr:=Z49 k u (min v.toNat k.bits) u1 u2;exact geq (r:=.int k (u.fdiv (2 ^ (min v.toNat k.bits)))) (by simp [execOp,ho,eu,ev,eqGuard,binOp,Op.shift,h0])
     (by simp only [den,hu,hv,O2.eval];rw [Z0B k _ hr.1 hr.2];exact .int _ _) (kx.shift ky (.inr rfl)) _
 all_goals
   simp only at h;split at h <;> try contradiction
   rename_i hk;subst hk;simp only [Zfo,Option.map_some,Option.some.injEq]at h;subst h
 case add=>exact geq (r:=.int k (k.wrap (u+v))) (by simp [execOp,ho,eu,ev,eqGuard,binOp,Op.intArith]) (by simp only [den,hu,hv,O2.eval];exact .int _ _) (kx.arith ky (by simp)) _
 case sub=>exact geq (r:=.int k (k.wrap (u - v))) (by simp [execOp,ho,eu,ev,eqGuard,binOp,Op.intArith]) (by simp only [den,hu,hv,O2.eval];exact .int _ _) (kx.arith ky (by simp)) _
 case mul=>exact geq (r:=.int k (k.wrap (u * v))) (by simp [execOp,ho,eu,ev,eqGuard,binOp,Op.intArith]) (by simp only [den,hu,hv,O2.eval];exact .int _ _) (kx.arith ky (by simp)) _
 case quo=>
   have h0:v≠0:=by
     have:=hn _ (List.mem_singleton.2 rfl);simpa [den,hv,O2.eval,D.eqb]using this
   exact geq (r:=.int k (k.wrap (u.tdiv v))) (by simp [execOp,ho,eu,ev,eqGuard,binOp,Op.intDiv,h0]) (by simp only [den,hu,hv,O2.eval];exact .int _ _) (kx.arith ky (by simp)) _
 case rem=>
   have h0:v≠0:=by
     have:=hn _ (List.mem_singleton.2 rfl);simpa [den,hv,O2.eval,D.eqb]using this
   have hr:=Z8P k u v u1 u2;exact geq (r:=.int k (u.tmod v)) (by simp [execOp,ho,eu,ev,eqGuard,binOp,Op.intDiv,h0]) (by simp only [den,hu,hv,O2.eval];rw [Z0B k _ hr.1 hr.2];exact .int _ _) (kx.arith ky (by simp)) _
 case and=>exact geq (r:=.int k (intBits .and k u v)) (by simp [execOp,ho,eu,ev,eqGuard,binOp,Op.intBits,intBits]) (by simp only [den,hu,hv,O2.eval];exact .int _ _) (kx.arith ky (by simp)) _
 case or=>exact geq (r:=.int k (intBits .or k u v)) (by simp [execOp,ho,eu,ev,eqGuard,binOp,Op.intBits,intBits]) (by simp only [den,hu,hv,O2.eval];exact .int _ _) (kx.arith ky (by simp)) _
 case xor=>exact geq (r:=.int k (intBits .xor k u v)) (by simp [execOp,ho,eu,ev,eqGuard,binOp,Op.intBits,intBits]) (by simp only [den,hu,hv,O2.eval];exact .int _ _) (kx.arith ky (by simp)) _
 case andNot=>exact geq (r:=.int k (intBits .andNot k u v)) (by simp [execOp,ho,eu,ev,eqGuard,binOp,Op.intBits,intBits]) (by simp only [den,hu,hv,O2.eval];exact .int _ _) (kx.arith ky (by simp)) _
 case eql=>exact geq (r:=.bool (u==v)) (by simp [execOp,ho,eu,ev,eqGuard,binOp,Op.intCmp]) (by simp only [den,hu,hv,O2.eval,D.eqb];exact .bool _) (kx.cmp ky rfl) _
 case neq=>exact geq (r:=.bool (u !=v)) (by simp [execOp,ho,eu,ev,eqGuard,binOp,Op.intCmp]) (by simp only [den,hu,hv,O2.eval,D.eqb];exact .bool _) (kx.cmp ky rfl) _
 case lss=>exact geq (r:=.bool (decide (u < v))) (by simp [execOp,ho,eu,ev,eqGuard,binOp,Op.intCmp]) (by simp only [den,hu,hv,O2.eval];exact .bool _) (kx.cmp ky rfl) _
 case leq=>exact geq (r:=.bool (decide (u≤v))) (by simp [execOp,ho,eu,ev,eqGuard,binOp,Op.intCmp]) (by simp only [den,hu,hv,O2.eval];exact .bool _) (kx.cmp ky rfl) _
 case gtr=>exact geq (r:=.bool (decide (u > v))) (by simp [execOp,ho,eu,ev,eqGuard,binOp,Op.intCmp]) (by simp only [den,hu,hv,O2.eval];exact .bool _) (kx.cmp ky rfl) _
 case geq=>exact geq (r:=.bool (decide (u≥v))) (by simp [execOp,ho,eu,ev,eqGuard,binOp,Op.intCmp]) (by simp only [den,hu,hv,O2.eval];exact .bool _) (kx.cmp ky rfl) _
theorem Zax {op:BinOp} {t yt:TypeId} {x y:Operand} (ho:o.op=.binOp op t x y yt) {p q:T}
   (hx:RS σ m ρ (.d ⟨p,.str⟩) (a.eval x)) (hy:RS σ m ρ (.d ⟨q,.str⟩) (a.eval y)) (kx:LOk ρ ⟨p,.str⟩) (ky:LOk ρ ⟨q,.str⟩)
   (hn:∀t∈s.needs,den ρ t=.bool true)
   (h:(ZeY op p q).map (fun(ns,v)=>(⟨ns,[],.d v,none⟩:Sym))=some s):OpOk E ρ σ m st a w o s:=by
 obtain⟨u,hu,eu,u1⟩:=RS.str hx kx;obtain⟨v,hv,ev,v1⟩:=RS.str hy ky;have geq:∀ {b:T} {r:Value} {kk:K} (hr:(execOp a.eval o).run E.P w=.ok (.value r) w) (hd:RepD m (den ρ b) r) (hk:LOk ρ ⟨b,kk⟩) (ns:List T),OpOk E ρ σ m st a w o ⟨ns,[],.d ⟨b,kk⟩,none⟩:=
   fun hr hd hk ns=>.val hf hok hr (.d hd) (.d hk) (by simp)
 cases op <;> simp only [ZeY,Option.map_some,Option.map_none,Option.some.injEq]at h <;> try contradiction
 all_goals subst h
 case add=>
   have hl:(u++v).length≤cap:=by
     have:=hn _ (List.mem_singleton.2 rfl);simp [den,hu,hv,O2.eval,O1.eval]at this;simp;omega
   refine geq (r:=.string ⟨(u++v).toArray⟩) ?_ (by simp only [den,hu,hv,O2.eval];exact .str _ hl) (kx.scat ky) _;have e:(⟨u.toArray⟩:ByteArray)++⟨v.toArray⟩=⟨(u++v).toArray⟩:=by
     apply ByteArray.ext;simp
   simp [execOp,ho,eu,ev,eqGuard,binOp,Op.stringOp,Wu,e];simp [cap]at hl;omega
 case eql=>exact geq (r:=.bool (u==v)) (by simp [execOp,ho,eu,ev,eqGuard,binOp,Op.stringOp,WI]) (by simp only [den,hu,hv,O2.eval,D.eqb];exact .bool _) (kx.cmp ky rfl) _
 case neq=>exact geq (r:=.bool (!(u==v))) (by simp [execOp,ho,eu,ev,eqGuard,binOp,Op.stringOp,WI]) (by simp only [den,hu,hv,O2.eval,D.eqb];exact .bool _) (kx.cmp ky rfl) _
 case lss=>exact geq (r:=.bool (Op.bytesLess u v)) (by simp [execOp,ho,eu,ev,eqGuard,binOp,Op.stringOp,WI]) (by simp only [den,hu,hv,O2.eval];exact .bool _) (kx.cmp ky rfl) _
 case leq=>exact geq (r:=.bool (Op.bytesLess u v||u==v)) (by simp [execOp,ho,eu,ev,eqGuard,binOp,Op.stringOp,WI]) (by simp only [den,hu,hv,O2.eval];exact .bool _) (kx.cmp ky rfl) _
 case gtr=>exact geq (r:=.bool (!(Op.bytesLess u v||u==v))) (by simp [execOp,ho,eu,ev,eqGuard,binOp,Op.stringOp,WI]) (by simp only [den,hu,hv,O2.eval];exact .bool _) (kx.cmp ky rfl) _
 case geq=>exact geq (r:=.bool (!(Op.bytesLess u v))) (by simp [execOp,ho,eu,ev,eqGuard,binOp,Op.stringOp,WI]) (by simp only [den,hu,hv,O2.eval];exact .bool _) (kx.cmp ky rfl) _
end ops
end
theorem Jn {P:Program} {t:TypeId} {d:TypeDesc} (h:P.underlying t=some d):∃i,P.info? t=some i:=by
 unfold Program.underlying at h;cases hi:P.info? t with
 |none=>rw [hi]at h;cases h
 |some i=>exact⟨i,rfl⟩
theorem Je {P:Program} {t:TypeId} {i:TypeInfo} (h:P.info? t=some i):P.cellsOf t=i.size:=by simp [Program.cellsOf,h]
theorem Z3U {w:World} {b off:Nat} {arr:Array Value} {t:TypeId} {fz:Nat×Nat} (hb:w.heap[b]? =some (.cells arr t fz)):w.cell? ⟨b,off,none⟩=arr[off]?:=by
 simp [World.cell?,hb]
theorem Z1y (b off j:Nat):(⟨b,off,none⟩:Addr).add j=⟨b,off+j,none⟩:=by
 unfold Addr.add;split <;> simp_all
theorem Z3i {n q q':Nat} (h:(List.range n)[q]? =some q'):q'=q∧q < n:=by
 have hq:q < n:=by simpa using(List.getElem?_eq_some_iff.1 h).1
 rw [List.getElem?_range hq]at h;cases h;exact⟨rfl,hq⟩
theorem Z3Z:∀ {cs:List (SV TK)} {ys:List TK},allD cs=some ys→cs=ys.map .d
 | [],ys,h=>by simp [allD]at h;subst h;rfl
 | c::cs,ys,h=>by
   cases c <;> simp only [allD]at h <;> try contradiction
   split at h <;> try contradiction
   rename_i xs hxs;cases h;rw [Z3Z hxs];rfl
theorem Z6I {ρ:List D}:∀ {zs:List TK},(∀z∈zs,LOk ρ z)→HasKs (zs.map (·.k)) ((zs.map (·.t)).map (Go.Sx.den ρ))
 | [],_=>trivial
 |z::zs,h=>⟨(h z List.mem_cons_self).1,Z6I fun y hy=>h y (List.mem_cons_of_mem _ hy)⟩
theorem ZgS {ρ:List D} {zs:List TK} {k0:K} {it:T} {ki:IntKind} {iv:Int} (hz:∀z∈zs,LOk ρ z∧z.k=k0) (hi:LOk ρ ⟨it,.int ki⟩) (hin:Go.Sx.den ρ it=.int ki iv) (hlt:iv.toNat < zs.length):
   LOk ρ ⟨.sel (T.list (zs.map (·.t))) it k0,k0⟩∧Go.Sx.den ρ (.sel (T.list (zs.map (·.t))) it k0)=denL ρ (zs[iv.toNat]):=by
 have hd:Go.Sx.den ρ (.sel (T.list (zs.map (·.t))) it k0)=denL ρ (zs[iv.toNat]):=by
   simp only [Go.Sx.den,hin,W9,D.list,D.cellAt];simp [List.getD,hlt,denL]
 have hm:=hz _ (List.getElem_mem hlt);refine⟨⟨?_,fun rs=>?_⟩,hd⟩
 · show HasK k0 (Go.Sx.den ρ (.sel (T.list (zs.map (·.t))) it k0));rw [hd, ←hm.2];exact hm.1.1
 · have hL:=LOk.list (ρ:=ρ) (ts:=zs.map (·.t)) (Z6I fun z hz'=>(hz z hz').1) (fun t ht rs=>by obtain⟨z,hz',rfl⟩:=List.mem_map.1 ht;exact(hz z hz').1.2 rs);simp only [Go.Sx.den];rw [hL.2 rs,hi.2 rs]
def W2 (arr:Array Value) (off n:Nat):List Value:=(arr.toList.drop off).take n
theorem Y7 {arr:Array Value} {off n j:Nat} (hj:j < n):(W2 arr off n)[j]? =arr[off+j]?:=by
 simp [W2,List.getElem?_take,hj,List.getElem?_drop]
theorem J6 {arr:Array Value} {off n:Nat} (h:off+n≤arr.size):(W2 arr off n).length=n:=by
 simp [W2];omega
theorem Z4p {P:Program} {w:World} {t:TypeId} {b off n:Nat} {arr:Array Value} {bt:TypeId} {fz:Nat×Nat} {ag:Bool} (hagg:YN P t=some ag) (hn:P.cellsOf t=n)
   (hb:w.heap[b]? =some (.cells arr bt fz)) (h:off+n≤arr.size) (h1:ag=false→n=1):
   (Instr.loadAt t (.pointer (some ⟨b,off,none⟩))).run P w=.ok (if ag then .agg (W2 arr off n).toArray else(W2 arr off n).headD undef) w:=by
 have hund:∃d,P.underlying t=some d∧ag=(match d with| .struct _| .array ..=>true|_=>false):=by
   unfold YN at hagg;cases hu:P.underlying t with
   |none=>rw [hu]at hagg;simp at hagg
   |some d=>rw [hu]at hagg;refine⟨d,rfl,?_⟩;cases d <;> simp_all
 obtain⟨d,hu,hag⟩:=hund;obtain⟨i,hi⟩:=Jn hu;have hsz:i.size=n:=by rw [←hn,Je hi]
 have hlen:=J6 h;cases ag with
 | true=>
   have hc:(loadCells ⟨b,off,none⟩ n).run P w=.ok (W2 arr off n).toArray w:=by
     have:=run_loadCells_list (P:=P) w ⟨b,off,none⟩ (W2 arr off n) (by
       intro j v hj;have hjn:j < n:=by rw [←hlen];exact(List.getElem?_eq_some_iff.1 hj).1
       rw [Y7 hjn]at hj;rw [Z1y,Z3U hb];exact hj)
     rw [hlen]at this;exact this
   have hA:(isAgg t).run P w=.ok true w:=by
     cases d <;> first|(simp at hag;done)|(simp [isAgg,run_underlying hu])
   simp [Instr.loadAt,Instr.sureAddr,loadVar,hA,sizeOf,typeInfo,hi,hsz,hc]
 | false=>
   have hn1:=h1 rfl;have hA:(isAgg t).run P w=.ok false w:=by
     cases d <;> first|(simp at hag;done)|(simp [isAgg,run_underlying hu])
   have hlt:off < arr.size:=by omega
   have hv:w.cell? ⟨b,off,none⟩=some arr[off]:=by rw [Z3U hb];simp [hlt]
   have hst:(W2 arr off n).headD undef=arr[off]:=by
     have hg:=Y7 (arr:=arr) (off:=off) (n:=n) (j:=0) (by omega);simp [hlt]at hg;cases hs:W2 arr off n with
     |nil=>rw [hs]at hg;simp at hg
     |cons x xs=>rw [hs]at hg;simp at hg;simp [hg]
   simp only [hst];simp [Instr.loadAt,Instr.sureAddr,loadVar,hA,load,Sem.run,hv]
section
variable {E:Env} {ρ:List D} {σ:Names} {m:Mem} {st:St TK} {a:Act} {w:World}
theorem Z7o {ag:Option Bool} {cs:List (SV TK)} {v:SV TK} {vals:List Value} (h:Yq ag cs=some v) (hl:vals.length=cs.length)
   (hv:∀(i:Nat) c u,cs[i]? =some c→vals[i]? =some u→RS σ m ρ c u) (hk:∀c∈cs,SV.Ok ρ c):
   ∃b,ag=some b∧(b=false→cs.length=1)∧RS σ m ρ v (if b then .agg vals.toArray else vals.headD undef)∧SV.Ok ρ v:=by
 unfold Yq at h;split at h <;> try contradiction
 · cases h;refine⟨true,rfl,by simp,?_,.agg hk⟩;simp only [if_true,RS,SV.map,SV.mapL_eq];refine .agg (by simp [hl]) fun i c u hc hu=>?_
   simp only [List.getElem?_map,Option.map_eq_some_iff]at hc;obtain⟨c',hc',rfl⟩:=hc;exact hv i c' u hc' (by simpa using hu)
 · split at h <;> try contradiction
   rename_i c;cases h;refine⟨false,rfl,by simp,?_,hk _ (List.mem_singleton.2 rfl)⟩;cases vals with
   |nil=>simp at hl
   |cons u us=>simp;exact hv 0 _ u rfl rfl
theorem RS.elt_inv {s i:TK} {off:Nat} {v:Value} (h:RS σ m ρ (.elt s i off) v):∃xs x k n b base arr t fz,den ρ s.t=.slice xs∧den ρ i.t=.int k n∧0≤n∧xs[n.toNat]? =some x∧m b=some (.cells arr t fz)∧
   base+x.length≤arr.size∧(∀(j:Nat) d u,x[j]? =some d→arr[base+j]? =some u→RepD m d u)∧v=.pointer (some ⟨b,base+off,none⟩):=by
 simp only [RS,SV.map]at h;generalize hs:denL ρ s=ds at h;generalize hi:denL ρ i=di at h;cases h with
 |elt h0 hx hm hsz hv=>exact⟨_,_,_,_,_,_,_,_,_,hs,hi,h0,hx,hm,hsz,hv,rfl⟩
section ops
variable (hf:Fits E σ m (W0 ρ st) a w) (hok:st.Ok ρ) {g:Option T} (hg:∀c,g=some c→den ρ c=.bool true) {o:Oper} {s:Sym}
include hf hok hg
theorem JB {ob:Nat} {ov:OV TK} (h:st.objs[ob]? =some ov):RepO σ m w ob (ov.map (denL ρ))∧OV.Ok ρ ov:=
 ⟨hf.objs ob _ (by simp [W0,St.map,h]),hok.objs _ (List.mem_of_getElem? h)⟩
theorem Zfa {t:TypeId} {x:Operand} (ho:o.op=.load t x) (h:sxOp E.P g st o=some s):OpOk E ρ σ m st a w o s:=by
 have hx:=Y5 hf hok hg x;simp only [sxOp,ho]at h;generalize thaw st.objs (Y4 g (look st x))=xx at *;have fin:∀(b off:Nat) (arr:Array Value) (bt:TypeId) (fz:Nat×Nat) (cs:List (SV TK)) (v:SV TK),a.eval x=.pointer (some ⟨b,off,none⟩)→w.heap[b]? =some (.cells arr bt fz)→off+E.P.cellsOf t≤arr.size→
     cs.length=E.P.cellsOf t→(∀(i:Nat) c u,cs[i]? =some c→arr[off+i]? =some u→RS σ m ρ c u)→(∀c∈cs,SV.Ok ρ c)→Yq (YN E.P t) cs=some v→OpOk E ρ σ m st a w o ⟨[],[],v,none⟩:=by
   intro b off arr bt fz cs v hev hb hsz hl hv hk hp;have hlen:=J6 hsz;obtain⟨ag,hag,h1,hr,ha⟩:=Z7o (σ:=σ) (m:=m) (vals:=W2 arr off (E.P.cellsOf t)) hp (by rw [hlen,hl]) (fun i c u hc hu=>hv i c u hc (by
     have hi:i < E.P.cellsOf t:=by rw [←hl];exact(List.getElem?_eq_some_iff.1 hc).1
     rw [Y7 hi]at hu;exact hu)) hk
   have run:=Z4p (P:=E.P) (w:=w) (t:=t) hag rfl hb hsz (fun e=>by rw [←hl];exact h1 e);exact .val hf hok (by simp only [execOp,ho,hev];simp [run]) hr ha (by simp)
 split at h <;> try contradiction
 · -- a box
   rename_i ob off;have hp:=hx.1;simp only [RS,SV.map]at hp;generalize hev:a.eval x=ev at hp;cases hp with
   |ptr hσ=>
   rename_i b;split at h <;> try contradiction
   · rename_i cs hob;split at h <;> try contradiction
     rename_i hle;split at h <;> try contradiction
     rename_i v hpk;cases h;have ho':=JB hf hok hg hob;have hr:=ho'.1;simp only [OV.map]at hr;generalize hcs:cs.map (SV.map (denL ρ))=mcs at hr;cases hr with
     | box hs hb hsz hv=>
       rw [hs]at hσ;cases hσ;rw [←hcs,List.length_map]at hsz;refine fin b off _ _ _ _ v hev hb (by omega) (by simp;omega) (fun i c u hc hu=>?_) (fun c hc=>?_) hpk
       · simp only [List.getElem?_take,List.getElem?_drop]at hc;split at hc <;> try contradiction
         exact hv (off+i) _ u (by rw [←hcs];simp [hc]) hu
       · have:=ho'.2;cases this with
         |box hb=>exact hb c (List.mem_of_mem_drop (List.mem_of_mem_take hc))
   · rename_i cs hob;split at h <;> try contradiction
     rename_i hle;split at h <;> try contradiction
     rename_i v hpk;cases h;have ho':=JB hf hok hg hob;have hr:=ho'.1;simp only [OV.map]at hr;generalize hcs:cs.map (denL ρ)=mcs at hr;cases hr with
     | fbox hs hd=>
       rw [hs]at hσ;cases hσ;cases hd with
       | ptr _ _ _ arr bt fz hm hsz hv=>
         rw [←hcs,List.length_map]at hsz;refine fin b off _ _ _ _ v hev (hf.mem _ _ hm) (by omega) (by simp;omega) (fun i c u hc hu=>?_) (fun c hc=>?_) hpk
         · simp only [List.getElem?_map,List.getElem?_take,List.getElem?_drop,Option.map_eq_some_iff]at hc;obtain⟨c',hc',rfl⟩:=hc;split at hc' <;> try contradiction
           exact .d (hv (off+i) _ u (by rw [←hcs];simp [hc']) (by simpa using hu))
         · have:=ho'.2;cases this with
           | fbox hb=>
             obtain⟨c',hc',rfl⟩:=List.mem_map.1 hc;exact .d (hb c' (List.mem_of_mem_drop (List.mem_of_mem_take hc')))
 · -- an element of an unchanging slice
   rename_i sl i off;obtain⟨xs,y,k,n,b,base,arr,bt,fz,hs,hi,h0,hy,hm,hsz,hv,hev⟩:=RS.elt_inv hx.1;split at h <;> try contradiction
   rename_i ks hks;split at h <;> try contradiction
   rename_i hle;split at h <;> try contradiction
   rename_i v hpk;cases h;have hkk:=hx.2;cases hkk with
   | elt ks1 ki1=>
     have kind:=ks1.1;rw [hs,hks]at kind;obtain⟨xs',hxs',hel⟩:=kind.slice_inv;cases hxs';have hyk:=hel y (List.mem_of_getElem? hy);have hyl:=hyk.length;refine fin b (base+off) arr bt fz _ v hev (hf.mem _ _ hm) (by omega) (by simp [Z52]) (fun q c u hc hu=>?_) (fun c hc=>?_) hpk
     · simp only [Z52,List.map_map,List.getElem?_map,Option.map_eq_some_iff,Function.comp]at hc;obtain⟨q',hq',rfl⟩:=hc;obtain⟨rfl,hq⟩:=Z3i hq';refine .d ?_;have hlt:off+q' < y.length:=by omega
       have hyq:y[off+q']? =some y[off+q']:=by simp [hlt]
       have:=hv (off+q') _ u hyq (by rw [←hu];congr 1;omega);simp only [denL,den,hs,hi,D.elem,D.cell];simpa [List.getD,hy,hyq]using this
     · obtain⟨c',hc',rfl⟩:=List.mem_map.1 hc;obtain⟨q,hq,rfl⟩:=List.mem_map.1 hc';have hq:=List.mem_range.1 hq;have hkq:ks[off+q]? =some (ks.getD (off+q) .bool):=by
         have:off+q < ks.length:=by omega
         simp [List.getD,this]
       have h1:LOk ρ ⟨sl.t,.slice ks⟩:=by have:=ks1;cases sl;simp only at hks;subst hks;exact this
       have h2:LOk ρ ⟨i.t,i.k⟩:=ki1;exact .d (h1.idx h2 hkq)
 · -- an element of an array of one's own
   rename_i ob i e off;have hp:=hx.1;simp only [RS,SV.map]at hp;generalize hev:a.eval x=ev at hp;generalize hi:denL ρ i=di at hp;cases hp with
   |oelt h0 hn hσ=>
   rename_i b n c k iv;split at h <;> try contradiction
   rename_i e' y hob;split at h <;> try contradiction
   rename_i ks hks;split at h <;> try contradiction
   rename_i hle;split at h <;> try contradiction
   rename_i v hpk;cases h;simp only [Bool.and_eq_true,beq_iff_eq,decide_eq_true_eq]at hle;obtain⟨⟨rfl,rfl⟩,hle⟩:=hle;have ho':=JB hf hok hg hob;have hr:=ho'.1;have hko:LOk ρ y:=by have:=ho'.2;cases this;assumption
   have hki:LOk ρ i:=by have:=hx.2;cases this;assumption
   simp only [OV.map]at hr;generalize hy:denL ρ y=dy at hr;cases hr with
   |none hs=>rw [hs]at hσ;cases hσ;simp at hn
   | arr hs hb h0c hc hcc hcap hsz he hv=>
     rename_i xs b' c' arr bt;rw [hs]at hσ;cases hσ;have kind:=hko.1;have hyd:den ρ y.t=.slice xs:=hy;rw [hyd,hks]at kind;obtain⟨_,hxs,hel⟩:=kind.slice_inv;cases hxs;have hxi:xs[iv.toNat]? =some xs[iv.toNat]:=by simp [hn]
     have hxl:=(hel _ (List.mem_of_getElem? hxi)).length;have hfit:iv.toNat * ks.length+ks.length≤arr.size:=by
       rw [hsz]
       calc iv.toNat * ks.length+ks.length=(iv.toNat+1) * ks.length:=by rw [Nat.add_mul,Nat.one_mul]
         _≤c * ks.length:=Nat.mul_le_mul_right _ (by omega)
     refine fin b (iv.toNat * ks.length+off) arr bt _ _ v hev hb (by omega) (by simp [Z52]) (fun q c u hc hu=>?_) (fun c hc=>?_) hpk
     · simp only [Z52,List.map_map,List.getElem?_map,Option.map_eq_some_iff,Function.comp]at hc;obtain⟨q',hq',rfl⟩:=hc;obtain⟨rfl,hq⟩:=Z3i hq';refine .d ?_;have hlt:off+q' < xs[iv.toNat].length:=by omega
       have hyq:xs[iv.toNat][off+q']? =some xs[iv.toNat][off+q']:=by simp [hlt]
       have:=hv iv.toNat (off+q') _ _ u hxi hyq (by rw [←hu];congr 1;omega);have hid:den ρ i.t=.int k iv:=hi;simp only [denL,den,hyd,hid,D.elem,D.cell];simpa [List.getD,hxi,hyq]using this
     · obtain⟨c',hc',rfl⟩:=List.mem_map.1 hc;obtain⟨q,hq,rfl⟩:=List.mem_map.1 hc';have hq:=List.mem_range.1 hq;have hkq:ks[off+q]? =some (ks.getD (off+q) .bool):=by
         have:off+q < ks.length:=by omega
         simp [List.getD,this]
       have h1:LOk ρ ⟨y.t,.slice ks⟩:=by cases y;simp only at hks;subst hks;exact hko
       exact .d (h1.idx (ik:=i.k) hki hkq)
 · -- a cell of a box,at an index
   rename_i ob i mm;split at h <;> try contradiction
   rename_i cs hob;split at h <;> try contradiction
   rename_i y ys hys;split at h <;> try contradiction
   rename_i hc;simp only [Bool.and_eq_true,beq_iff_eq]at hc;obtain⟨⟨⟨c1,c2⟩,c3⟩,c4⟩:=hc;cases h;have hcs:=Z3Z hys;have ho':=JB hf hok hg hob;have hr:=ho'.1;simp only [OV.map]at hr;have hki:LOk ρ i:=by have:=hx.2;cases this;assumption
   have hp:=hx.1;simp only [RS,SV.map]at hp;generalize hev:a.eval x=ev at hp;generalize hdi:denL ρ i=di at hp;cases hp with
   |bptr h0 hl hσ=>
   rename_i b k iv;generalize hmcs:cs.map (SV.map (denL ρ))=mcs at hr;cases hr with
   | box hs hb hsz hv=>
     rename_i b' arr bt;rw [hs]at hσ;cases hσ;have hszz:arr.size=(y::ys).length:=by rw [hsz, ←hmcs,hcs];simp
     have hlt:iv.toNat < (y::ys).length:=by omega
     have hz:∀z∈y::ys,LOk ρ z∧z.k=y.k:=by
       intro z hz;refine⟨?_,K.eq_of_beq (List.all_eq_true.1 c4 z hz)⟩;have:=ho'.2;cases this with
       | box hh=>
         have:=hh (.d z) (by rw [hcs];exact List.mem_map_of_mem hz);cases this;assumption
     have hik:i.k=.int k:=by
       have:=hki.1;have hdi':Go.Sx.den ρ i.t=.int k iv:=hdi;rw [hdi']at this;generalize i.k=q at this ⊢;cases q <;> simp [HasK]at this
       rw [this.1]
     have hki':LOk ρ ⟨i.t,.int k⟩:=by rw [←hik];exact hki
     obtain⟨s1,s2⟩:=ZgS hz hki' hdi hlt;refine fin b iv.toNat arr bt (0,0) [.d ⟨.sel (T.list ((y::ys).map (·.t))) i.t y.k,y.k⟩] _ hev hb (by omega) (by simp [c1]) (fun q c u hc hu=>?_) (fun c hc=>?_) (by rw [c2];rfl)
     · cases q with
       |succ q=>simp at hc
       | zero=>
         simp at hc;subst hc;refine .d ?_;show RepD m (Go.Sx.den ρ (.sel (T.list ((y::ys).map (·.t))) i.t y.k)) u;rw [s2];have:=hv iv.toNat (SV.map (denL ρ) (.d (y::ys)[iv.toNat])) u (by rw [←hmcs,hcs,List.map_map,List.getElem?_map,List.getElem?_eq_getElem hlt];rfl) (by simpa using hu);simp only [SV.map]at this;cases this;assumption
     · simp at hc;subst hc;exact .d s1
 · -- a pointer to unchanging memory
   rename_i p ks;have hkp:=Jc hx.2;obtain⟨cs,hcs,hck⟩:=hkp.1.ptr_inv;simp only at hcs;split at h <;> try contradiction
   rename_i hle;split at h <;> try contradiction
   rename_i v hpk;cases h;have hp:=hx.1.d_inv;simp only [denL,hcs]at hp;have hl:=hck.length;generalize hev:a.eval x=ev at hp;cases hp with
   | ptr _ b off arr bt fz hm hsz hv=>
     refine fin b off arr bt fz _ v hev (hf.mem _ _ hm) (by omega) (by simp) (fun q c u hc hu=>?_) (fun c hc=>?_) hpk
     · simp only [List.getElem?_map,Option.map_eq_some_iff]at hc;obtain⟨q',hq',rfl⟩:=hc;obtain⟨rfl,hq⟩:=Z3i hq';refine .d ?_;have hlt:q' < cs.length:=by omega
       have hyq:cs[q']? =some cs[q']:=by simp [hlt]
       have:=hv q' _ u hyq hu;simp only [denL,den,hcs,D.cells,D.cell];simpa [List.getD,hyq]using this
     · obtain⟨q,hq,rfl⟩:=List.mem_map.1 hc;have hq:=List.mem_range.1 hq;have hkq:ks[q]? =some (ks.getD q .bool):=by
         have:q < ks.length:=by omega
         simp [List.getD,this]
       exact .d (hkp.fld hkq)
end ops
end
section
variable {E:Env} {ρ:List D} {σ:Names} {m:Mem} {st:St TK} {a:Act} {w:World}
section ops
variable (hf:Fits E σ m (W0 ρ st) a w) (hok:st.Ok ρ) {g:Option T} (hg:∀c,g=some c→den ρ c=.bool true) {o:Oper} {s:Sym}
include hf hok hg
theorem Z7r {x:Operand} (ho:o.op=.nilCheck x) (h:sxOp E.P g st o=some s):OpOk E ρ σ m st a w o s:=by
 have hx:=Y5 hf hok hg x;simp only [sxOp,ho]at h;generalize thaw st.objs (Y4 g (look st x))=xx at *;have fin:∀ad:Addr,a.eval x=.pointer (some ad)→RS σ m ρ xx (a.eval x)→SV.Ok ρ xx→OpOk E ρ σ m st a w o ⟨[],[],xx,none⟩:=fun ad hev hr ha=>
   .val hf hok (v:=.pointer (some ad)) (by simp only [execOp,ho,hev];simp) (by rw [←hev];exact hr) ha (by simp)
 split at h <;> try contradiction
 · cases h;have hp:=hx.1;simp only [RS,SV.map]at hp;generalize hev:a.eval x=ev at hp;cases hp;exact fin _ hev hx.1 hx.2
 · cases h;obtain⟨xs,y,k,n,b,base,arr,bt,fz,hs,hi,h0,hy,hm,hsz,hv,hev⟩:=RS.elt_inv hx.1;exact fin _ hev hx.1 hx.2
 · cases h;have hp:=hx.1;simp only [RS,SV.map]at hp;generalize hev:a.eval x=ev at hp;generalize hi:denL ρ _=di at hp;cases hp;exact fin _ hev hx.1 hx.2
theorem Z6v {t:TypeId} {x:Operand} {f:Nat} (ho:o.op=.fieldAddr t x f) (h:sxOp E.P g st o=some s):OpOk E ρ σ m st a w o s:=by
 have hx:=Y5 hf hok hg x;simp only [sxOp,ho]at h;generalize thaw st.objs (Y4 g (look st x))=xx at *;split at h <;> try contradiction
 rename_i fs hu;split at h <;> try contradiction
 rename_i fd hfd;split at h <;> try contradiction
 rename_i hnz;have hinfo:∃i,E.P.info? fd.type=some i∧i.size≠0:=by
   simp only [Program.cellsOf]at hnz;cases hi:E.P.info? fd.type with
   |none=>simp [hi]at hnz
   |some i=>exact⟨i,rfl,by simpa [hi]using hnz⟩
 obtain⟨i,hi,hi0⟩:=hinfo;have run:∀(b off:Nat),a.eval x=.pointer (some ⟨b,off,none⟩)→(execOp a.eval o).run E.P w=.ok (.value (.pointer (some ⟨b,off+fd.offset,none⟩))) w:=fun b off hev=>by
   simp only [execOp,ho,hev];simp [Instr.fieldAt,run_underlying hu,hfd,Instr.sureAddr,fieldPlace,sizeOf,typeInfo,hi,hi0,Z1y]
 split at h <;> try contradiction
 · cases h;have hp:=hx.1;simp only [RS,SV.map]at hp;generalize hev:a.eval x=ev at hp;cases hp with
   |ptr hσ=>exact .val hf hok (run _ _ hev) (.ptr hσ) .ptr (by simp)
 · cases h;obtain⟨xs,y,k,n,b,base,arr,bt,fz,hs,hii,h0,hy,hm,hsz,hv,hev⟩:=RS.elt_inv hx.1;have hkk:=hx.2;cases hkk with
   | elt k1 k2=>
     refine .val hf hok (run _ _ hev) ?_ (.elt k1 k2) (by simp);have e1:denL ρ _=.slice xs:=hs;have e2:denL ρ _=.int k n:=hii;simp only [RS,SV.map,e1,e2];rw [Nat.add_assoc];exact .elt h0 hy hm hsz hv
 · cases h;have hp:=hx.1;simp only [RS,SV.map]at hp;generalize hev:a.eval x=ev at hp;generalize hii:denL ρ _=di at hp;have hkk:=hx.2;cases hkk with
   | oelt k1=>
     cases hp with
     | oelt h0 hn hσ=>
       refine .val hf hok (run _ _ hev) ?_ (.oelt k1) (by simp);simp only [RS,SV.map,hii];rw [Nat.add_assoc];exact .oelt h0 hn hσ
 · rename_i p ks;split at h <;> try contradiction
   rename_i hle;cases h;have hkp:=Jc hx.2;obtain⟨cs,hcs,hck⟩:=hkp.1.ptr_inv;simp only at hcs;have hp:=hx.1.d_inv;simp only [denL,hcs]at hp;generalize hev:a.eval x=ev at hp;cases hp with
   | ptr _ b off arr bt fz hm hsz hv=>
     have hl:=hck.length;refine .val hf hok (run _ _ hev) (.d ?_) (.d hkp.padd) (by simp);simp only [denL,den,hcs,D.padd];refine .ptr _ b _ arr bt fz hm (by simp;omega) fun j d u hd hu=>?_
     rw [List.getElem?_drop]at hd;exact hv _ d u hd (by rw [←hu];congr 1;omega)
theorem Zcd {t:TypeId} {x:Operand} {f:Nat} (ho:o.op=.field t x f) (h:sxOp E.P g st o=some s):OpOk E ρ σ m st a w o s:=by
 have hx:=Y5 hf hok hg x;simp only [sxOp,ho]at h;generalize thaw st.objs (Y4 g (look st x))=xx at *;split at h <;> try contradiction
 rename_i fs hu;split at h <;> try contradiction
 rename_i fd cs hfd;split at h <;> try contradiction
 rename_i hle;split at h <;> try contradiction
 rename_i v hpk;cases h;have hp:=hx.1;simp only [RS,SV.map]at hp;generalize hev:a.eval x=ev at hp;generalize hcs:SV.mapL (denL ρ) cs=mcs at hp;rw [SV.mapL_eq]at hcs;have hka:∀c∈cs,SV.Ok ρ c:=by have:=hx.2;cases this;assumption
 cases hp with
 | agg hsz hv=>
   rename_i arr;rw [←hcs,List.length_map]at hsz;have hst:=J6 (arr:=arr) (off:=fd.offset) (n:=E.P.cellsOf fd.type) (by omega);obtain⟨ag,hag,h1,hr,ha⟩:=Z7o (σ:=σ) (m:=m) (ρ:=ρ) (vals:=W2 arr fd.offset (E.P.cellsOf fd.type)) hpk (by rw [hst];simp;omega) (fun i c u hc hu=>by
     simp only [List.getElem?_take,List.getElem?_drop]at hc;split at hc <;> try contradiction
     rename_i hi;rw [Y7 hi]at hu;exact hv (fd.offset+i) _ u (by rw [←hcs];simp [hc]) hu) (fun c hc=>hka c (List.mem_of_mem_drop (List.mem_of_mem_take hc)))
   have hund:∃d,E.P.underlying fd.type=some d∧ag=(match d with| .struct _| .array ..=>true|_=>false):=by
     unfold YN at hag;cases hu:E.P.underlying fd.type with
     |none=>rw [hu]at hag;simp at hag
     |some d=>rw [hu]at hag;refine⟨d,rfl,?_⟩;cases d <;> simp_all
   obtain⟨d,hud,hagd⟩:=hund;obtain⟨i,hi⟩:=Jn hud;have hsi:i.size=E.P.cellsOf fd.type:=by rw [Je hi]
   refine .val hf hok ?_ hr ha (by simp);simp only [execOp,ho,hev];cases ag with
   | true=>
     have hA:(isAgg fd.type).run E.P w=.ok true w:=by
       cases d <;> first|(simp at hagd;done)|(simp [isAgg,run_underlying hud])
     have he:(W2 arr fd.offset (E.P.cellsOf fd.type)).toArray=arr.extract fd.offset (fd.offset+E.P.cellsOf fd.type):=by
       apply Array.ext';simp [W2,List.take_drop]
     simp [Instr.field,run_underlying hu,hfd,part,hA,asAgg,sizeOf,typeInfo,hi,hsi,he]
   | false=>
     have hn1:=h1 rfl;simp at hn1;have hA:(isAgg fd.type).run E.P w=.ok false w:=by
       cases d <;> first|(simp at hagd;done)|(simp [isAgg,run_underlying hud])
     have hlt:fd.offset < arr.size:=by omega
     have hg0:=Y7 (arr:=arr) (off:=fd.offset) (n:=E.P.cellsOf fd.type) (j:=0) (by omega);simp [hlt]at hg0;have he:(W2 arr fd.offset (E.P.cellsOf fd.type)).headD undef=arr[fd.offset]:=by
       cases hs:W2 arr fd.offset (E.P.cellsOf fd.type)with
       |nil=>rw [hs]at hg0;simp at hg0
       |cons x xs=>rw [hs]at hg0;simp at hg0;simp [hg0]
     simp only [he];have hsome:arr[fd.offset]? =some arr[fd.offset]:=by simp [hlt]
     simp [Instr.field,run_underlying hu,hfd,part,hA,asAgg,hsome]
theorem Z97 {x:Operand} {i:Nat} (ho:o.op=.extract x i) (h:sxOp E.P g st o=some s):OpOk E ρ σ m st a w o s:=by
 have hx:=Y5 hf hok hg x;simp only [sxOp,ho]at h;generalize thaw st.objs (Y4 g (look st x))=xx at *;split at h <;> try contradiction
 rename_i vs;split at h <;> try contradiction
 rename_i v hv;cases h;have hp:=hx.1;simp only [RS,SV.map]at hp;generalize hev:a.eval x=ev at hp;generalize hcs:SV.mapL (denL ρ) vs=mcs at hp;rw [SV.mapL_eq]at hcs;have hka:∀c∈vs,SV.Ok ρ c:=by have:=hx.2;cases this;assumption
 cases hp with
 | tup hsz hvv=>
   rename_i arr;rw [←hcs,List.length_map]at hsz;have hi:i < arr.size:=by rw [hsz];exact(List.getElem?_eq_some_iff.1 hv).1
   have hgi:arr[i]? =some arr[i]:=by simp [hi]
   refine .val hf hok (v:=arr[i]) ?_ (hvv i _ _ (by rw [←hcs];simp [hv]) hgi) (hka v (List.mem_of_getElem? hv)) (by simp);simp only [execOp,ho,hev];simp [Instr.extract,hgi]
theorem Z0I {ob:Nat} {v x:Value} (hx:RS σ m ρ (.own ob) x) (h:σ ob=some v):x=v:=by
 simp only [RS,SV.map]at hx;cases hx with
 |own hσ=>rw [h]at hσ;cases hσ;rfl
theorem WE (ad:Option Addr) (h c e:Nat):Z2z ad 0 h c e=.slice ad h c:=by
 cases ad <;> simp [Z2z,Addr.add_zero']
theorem Z78 {ob e:Nat} {z:TK} (hob:st.objs[ob]? =some (.arr e z)):∃xs ad c,den ρ z.t=.slice xs∧σ ob=some (.slice ad xs.length c)∧xs.length≤c∧xs.length≤cap∧LOk ρ z∧
   ((c=0∧xs=[])∨(0 < c∧c≤maxLen∧∃b arr t,ad=some ⟨b,0,none⟩∧w.heap[b]? =some (.cells arr t (0,0))∧arr.size=c * e∧(∀x∈xs,x.length=e)∧
     ∀(i j:Nat) x d v,xs[i]? =some x→x[j]? =some d→arr[i * e+j]? =some v→RepD m d v)):=by
 have ho':=JB hf hok hg hob;have k:LOk ρ z:=by have:=ho'.2;cases this;assumption
 have hr:=ho'.1;simp only [OV.map,denL]at hr;generalize hy:den ρ z.t=dy at hr;cases hr with
 |none hs=>exact⟨[],_,0,rfl,hs,Nat.le_refl _,by simp,k,.inl ⟨rfl,rfl⟩⟩
 |arr hs hb h0 hc hcc hcap hsz he hv=>exact⟨_,_,_,rfl,hs,hc,hcap,k,.inr ⟨h0,hcc,_,_,_,rfl,hb,hsz,he,hv⟩⟩
theorem Z1A {ob q e:Nat} {lo hi:TK} (hob:st.objs[ob]? =some (.view q e lo hi)):∃(l h n c:Nat) (ad:Option Addr),den ρ lo.t=.int .i64 (l:Nat)∧den ρ hi.t=.int .i64 (h:Nat)∧σ q=some (.slice ad n c)∧
   σ ob=some (Z2z ad l h c e)∧l≤h∧h≤n∧n≤c∧LOk ρ lo∧LOk ρ hi:=by
 have ho':=JB hf hok hg hob;obtain⟨k1,k2⟩:LOk ρ lo∧LOk ρ hi:=by have:=ho'.2;cases this;exact⟨by assumption,by assumption⟩
 have hr:=ho'.1;simp only [OV.map,denL]at hr;generalize hl:den ρ lo.t=dl at hr;generalize hh:den ρ hi.t=dh at hr;cases hr with
 |view hq hs h1 h2 h3=>exact⟨_,_,_,_,_,rfl,rfl,hq,hs,h1,h2,h3,k1,k2⟩
theorem Z31 {ob q e:Nat} {z:TK} {top:T} {x:Value} (h:Z2H st.objs ob=some (q,e,z,top)) (hx:RS σ m ρ (.own ob) x):st.objs[q]? =some (.arr e z)∧
   ∃xs ad c,∃h0:Nat,den ρ z.t=.slice xs∧σ q=some (.slice ad xs.length c)∧xs.length≤c∧xs.length≤cap∧LOk ρ z∧den ρ top=.int .i64 (h0:Nat)∧h0≤xs.length∧x=.slice ad h0 c∧LOk ρ ⟨top,.int .i64⟩:=by
 unfold Z2H at h;split at h <;> try contradiction
 · rename_i e' z' hob;cases h;obtain⟨xs,ad,c,h1,h2,h3,h4,k,h5⟩:=Z78 hf hok hg hob;refine⟨hob,xs,ad,c,xs.length,h1,h2,h3,h4,k,by simp [den,h1,O1.eval],Nat.le_refl _,Z0I hf hok hg hx h2,?_⟩;exact LOk.len (k:=z.k) k (fun ys hys=>by rw [h1]at hys;cases hys;exact h4) (fun ys hys=>by rw [h1]at hys;cases hys)
 · rename_i q' e' hh hob;split at h <;> try contradiction
   rename_i e2 z' hq;split at h <;> try contradiction
   rename_i he;cases h;have he:e2=e:=by simpa using he
   subst he;obtain⟨xs,ad,c,h1,h2,h3,h4,k,h5⟩:=Z78 hf hok hg hq;obtain⟨l,h0,n,c',ad',d1,d2,s1,s2,i1,i2,i3,k1,k2⟩:=Z1A hf hok hg hob;rw [h2]at s1;cases s1;simp only [den,D.int.injEq,true_and]at d1;have hl0:l=0:=by omega
   subst hl0;refine⟨hq,xs,ad,c,h0,h1,h2,h3,h4,k,d2,i2,?_,k2⟩;rw [Z0I hf hok hg hx s2];exact WE hf hok hg _ _ _ _
theorem Zh3 {x:Operand} {t:TypeId} {c:Call} (ho:o.op=.call c) (hc:c.callee=.builtin .len) (hargs:c.args.toList=[x]) (hty:c.argTypes.toList=[t])
   (h:sxOp E.P g st o=some s):OpOk E ρ σ m st a w o s:=by
 have hx:=Y5 hf hok hg x;simp only [sxOp,ho,hc,hargs,hty]at h;generalize thaw st.objs (Y4 g (look st x))=xx at *;have ha:c.args= #[x]:=by rw [←Array.toArray_toList (xs:=c.args),hargs]
 have ht:c.argTypes= #[t]:=by rw [←Array.toArray_toList (xs:=c.argTypes),hty]
 split at h <;> try contradiction
 · rename_i q hu;cases h;have k:=Jc hx.2;obtain⟨l,hl,hv,hcap⟩:=RS.str hx.1 k;refine .val hf hok (v:=.int .i64 (l.length:Nat)) ?_ (.d ?_) (.d (k.len (fun xs hxs=>by rw [hl]at hxs;cases hxs) (fun xs hxs=>by rw [hl]at hxs;cases hxs;exact hcap))) ?_
   · simp [execOp,ho,resolve,hc,ha,ht,hv,invoke,builtin,Builtin.len_,run_underlying hu,goInt,Wu]
   · simp only [denL,den,hl,O1.eval];exact .int _ _
   · intro t ht;simp at ht;subst ht;simp [den,hl,O1.eval,O2.eval,capT,cap]at hcap ⊢;omega
 · rename_i el sx ks hu;cases h;have k:=Jc hx.2;obtain⟨xs,hxs,hel⟩:=k.1.slice_inv;simp only at hxs;have hd:=hx.1.d_inv;simp only [denL,hxs]at hd;have hlen:∃ad c',a.eval x=.slice ad xs.length c'∧xs.length≤cap:=by
     generalize a.eval x=ev at hd;cases hd with
     |empty=>exact⟨_,_,rfl,by simp⟩
     |slice _ b off arr bt fz e c hc hcap=>exact⟨_,_,rfl,hcap⟩
   obtain⟨ad,c',hev,hcap⟩:=hlen;refine .val hf hok (v:=.int .i64 (xs.length:Nat)) ?_ (.d ?_) (.d (k.len (fun ys hys=>by rw [hxs]at hys;cases hys;exact hcap) (fun ys hys=>by rw [hxs]at hys;cases hys))) ?_
   · simp [execOp,ho,resolve,hc,ha,ht,hev,invoke,builtin,Builtin.len_,run_underlying hu,goInt]
   · simp only [denL,den,hxs,O1.eval];exact .int _ _
   · intro t ht;simp at ht;subst ht;simp [den,hxs,O1.eval,O2.eval,capT,cap]at hcap ⊢;omega
 · rename_i el hu;cases h;have hp:=hx.1;simp only [RS,SV.map]at hp;generalize hev:a.eval x=ev at hp;cases hp;refine .val hf hok (v:=.int .i64 0) ?_ (.d ?_) (.d (.int _ _ (by decide))) (by simp)
   · simp [execOp,ho,resolve,hc,ha,ht,hev,invoke,builtin,Builtin.len_,run_underlying hu,goInt]
   · simp only [denL,den];exact .int _ _
 · rename_i el ob hu;split at h <;> try contradiction
   rotate_left
   · rename_i q e' hh hob;cases h;obtain⟨l,h0,n,c',ad,d1,d2,s1,s2,i1,i2,i3,k1,k2⟩:=Z1A hf hok hg hob;simp only [den,D.int.injEq,true_and]at d1;have hl0:l=0:=by omega
     subst hl0;have hev:=Z0I hf hok hg hx.1 s2;rw [WE hf hok hg]at hev;refine .val hf hok (v:=.int .i64 (h0:Nat)) ?_ (.d ?_) (.d k2) (by simp)
     · simp [execOp,ho,resolve,hc,ha,ht,hev,invoke,builtin,Builtin.len_,run_underlying hu,goInt]
     · simp only [denL,d2];exact .int _ _
   rename_i e' y hob;cases h;have ho':=JB hf hok hg hob;have k:LOk ρ y:=by have:=ho'.2;cases this;assumption
   have hr:=ho'.1;simp only [OV.map]at hr;have hp:=hx.1;simp only [RS,SV.map]at hp;have hlen:∃xs ad c',denL ρ y=.slice xs∧a.eval x=.slice ad xs.length c'∧xs.length≤cap:=by
     generalize hy:denL ρ y=dy at hr;generalize hev:a.eval x=ev at hp;cases hp with
     | own hσ=>
       cases hr with
       |none hs=>rw [hs]at hσ;cases hσ;exact⟨[],_,_,rfl,rfl,by simp⟩
       |arr hs hb h0c hc hcc hcap=>rw [hs]at hσ;cases hσ;exact⟨_,_,_,rfl,rfl,hcap⟩
   obtain⟨xs,ad,c',hxs,hev,hcap⟩:=hlen;simp only [denL]at hxs;refine .val hf hok (v:=.int .i64 (xs.length:Nat)) ?_ (.d ?_) (.d (LOk.len (k:=y.k) k (fun ys hys=>by rw [hxs]at hys;cases hys;exact hcap) (fun ys hys=>by rw [hxs]at hys;cases hys))) ?_
   · simp [execOp,ho,resolve,hc,ha,ht,hev,invoke,builtin,Builtin.len_,run_underlying hu,goInt]
   · simp only [denL,den,hxs,O1.eval];exact .int _ _
   · intro t ht;simp at ht;subst ht;simp [den,hxs,O1.eval,O2.eval,capT,cap]at hcap ⊢;omega
end ops
end
end Go.Sx
