/- The symbolic executor: definitions and what operations compute. -/
import Derived.WalkKit
import Derived.KernelRfl
import Derived.ChangeKeysEq
import Derived.Lib.SliceRun
import Derived.Stop.IfaceNil
import Derived.Laws.Cover3
set_option linter.unusedVariables false
set_option linter.unusedSimpArgs false
namespace Go.Sx
section
theorem ah{α:Type _}(a b:α):(some a=some b)=(a=b):=Option.some.injEq a b
theorem ao(a b:Bool):((a&&b)=true)=(a=true/\b=true):=Bool.and_eq_true a b
theorem fF(a b:Bool):((a||b)=true)=(a=true\/b=true):=Bool.or_eq_true a b
theorem aC{p:Prop} [Decidable p]:(decide p=true)=p:=decide_eq_true_eq
theorem ay{α β:Type _}(a:α)(b:β)(c:α)(d:β):((a,b)=(c,d))=(a=c/\b=d):=Prod.mk.injEq a b c d
theorem aK{α:Type _}{a:α}{l:List α}:a∈a::l:=List.mem_cons_self
theorem bl{α:Type _}(y:α){a:α}{l:List α}(h:a∈l):a∈y::l:=List.mem_cons_of_mem y h
theorem bJ{α β:Type _}{b:α}{x:Option β}{f:β->α}:Option.map f x=some b↔∃a,x=some a/\f a=b:=Option.map_eq_some_iff
theorem cq{α:Type _}{l:List α}{i:Nat}{a:α}:l.getD i a=l[i]?.getD a:=List.getD_eq_getElem?_getD
theorem dc{α:Type _}{i:Nat}{a:α}{l:List α}:l[i]?=some a↔∃h:i<l.length,l[i]=a:=List.getElem?_eq_some_iff
theorem dG{α:Type _}{l:List α}{i:Nat}(h:i<l.length):l[i]?=some l[i]:=List.getElem?_eq_getElem h
theorem bD{α:Type _}{b:α}{l:List α}{a:α}:a∈b::l↔a=b\/a∈l:=List.mem_cons
theorem eY{α:Type _}{a b:List α}:(a++b).length=a.length+b.length:=List.length_append
abbrev eH:=@Result.andThen_ok
abbrev eI:=@Sem.run_bind
abbrev fK:=@Sem.run_pure
abbrev mC:=@of_decide_eq_true
abbrev Fc:=@of_decide_eq_false
abbrev tZ:=@decide_eq_false_iff_not
abbrev jE:=@List.all_eq_true
abbrev jK:=@List.map_cons
abbrev rm:=@List.map_congr_left
abbrev qm:=@Int.toNat_natCast
abbrev jZ:=@List.getElem?_cons_zero
abbrev zy:=@List.getElem?_cons_succ
abbrev gE:=@List.not_mem_nil
abbrev o9:=@Int.mul_le_mul_of_nonneg_left
abbrev qF:=@Int.mul_le_mul_of_nonneg_right
abbrev mJ:=@List.getElem?_append_left
abbrev pB:=@List.getElem?_append_right
abbrev jy:=@Bool.false_eq_true
abbrev rJ:=@Array.getElem?_eq_some_iff
abbrev jt:=@List.getElem?_map
abbrev gQ:=@decide_eq_true
abbrev pI:=@List.take_of_length_le
abbrev vK:=@List.drop_of_length_le
abbrev jA:=@List.mem_filter
abbrev mg:=@Bool.not_eq_true'
abbrev rN:=@List.mem_of_getElem?
abbrev ml:=@List.map_append
abbrev rZ:=@List.getElem?_eq_none
abbrev mS:=@Nat.lt_or_ge
abbrev mP:=@List.nil_append
abbrev qt:=@List.cons_append
abbrev ot:=@List.length_map
abbrev uL:=@Bool.or_eq_false_iff
abbrev NY:=@Bool.and_eq_false_iff
abbrev xf:=@Nat.mul_le_mul_right
abbrev DL:=@List.take_append_of_le_length
abbrev Ht:=@List.drop_append_of_le_length
abbrev Dp:=@List.eq_nil_of_length_eq_zero
abbrev lg:=@List.mem_singleton
abbrev nN:=@List.map_nil
abbrev jb:=@List.mem_map
abbrev ke:=@Array.ext'
abbrev ua:=@List.length_take
abbrev lQ:=@List.mem_append
abbrev DQ:=@Int.tdiv_eq_ediv_of_nonneg
abbrev xp:=@Int.emod_lt_of_pos
abbrev Dv:=@List.mem_of_find?_eq_some
abbrev uU:=@Int.ediv_nonneg
abbrev sy:=@Int.mul_nonneg
abbrev yV:=@List.mem_append_left
abbrev BJ:=@List.mem_append_right
abbrev lx:=@List.mem_range
abbrev yN:=@List.length_cons
abbrev zI:=@List.getElem?_take
abbrev DR:=@Nat.eq_of_beq_eq_true
abbrev Dt:=@List.take_append_drop
abbrev DS:=@Int.ediv_lt_of_lt_mul
abbrev xq:=@List.mem_filterMap
abbrev Fu:=@List.getElem?_replicate
abbrev DB:=@Nat.lt_of_lt_of_le
abbrev yM:=@Int.emod_nonneg
abbrev yS:=@List.append_nil
abbrev kL:=@Nat.le_trans
abbrev fC:=@Nat.zero_add
abbrev fu:=@Nat.le_refl
abbrev gP:=@Nat.add_zero
abbrev ko:=@Int.mul_comm
abbrev wY:=@List.foldl_cons
abbrev yW:=@Bool.eq_false_iff
abbrev sC:=@Nat.le_add_right
abbrev la:=@Nat.add_mul
abbrev Ds:=@List.toList_toArray
abbrev zF:=@Option.isSome_iff_exists
abbrev se:=@Option.map_some
abbrev yX:=@Int.mul_le_mul
abbrev lT:=@List.any_eq_true
inductive DV where
 |i (n:Int)
 |b (x:Bool)
 |l (xs:List (List Int))
 deriving Inhabited
def DV.int:DV->Int
 |.i n=>n
 |_=>0
def DV.bool:DV->Bool
 |.b x=>x
 |_=>false
def DV.list:DV->List (List Int)
 |.l xs=>xs
 |_=>[]
abbrev az:=Nat->DV
def az.set(ae:az)(k:Nat)(d:DV):az:=fun j=>if j=k then d else ae j
def az.av(ae:az)(k:Nat):List DV->az
 | []=>ae
 |d::ds=>az.av (az.set ae k d) (k+1) ds
inductive IE where
 |v (k:Nat)
 |c (n:Int)
 |add (a b:IE)
 |sub (a b:IE)
 |mul (a b:IE)
 |tdiv (a b:IE)
 |tmod (a b:IE)
 |ediv (a:IE) (n:Nat)
 |emod (a:IE) (n:Nat)
 |shl (a b:IE)
 |shr (a b:IE)
 |wrap (k:IntKind) (a:IE)
 |max (a b:IE)
 |min (a b:IE)
 |bits (op:BinOp) (k:IntKind) (a b:IE)
 |len (k:Nat)
 |get (k:Nat) (i:IE) (j:Nat)
 |kZ (i:IE) (n:Nat) (a b:IE)
 deriving DecidableEq,Repr,Inhabited
def cellAt(xs:List (List Int))(i:Int)(j:Nat):Int:=(xs.getD i.toNat []).getD j 0
def IE.af(ae:az):IE->Int
 |.v k=>(ae k).int
 |.c n=>n
 |.add a b=>a.af ae+b.af ae
 |.sub a b=>a.af ae-b.af ae
 |.mul a b=>a.af ae*b.af ae
 |.tdiv a b=>(a.af ae).tdiv (b.af ae)
 |.tmod a b=>(a.af ae).tmod (b.af ae)
 |.ediv a n=>a.af ae/(n:Int)
 |.emod a n=>a.af ae%(n:Int)
 |.shl a b=>a.af ae*2 ^ (b.af ae).toNat
 |.shr a b=>a.af ae/2 ^ (b.af ae).toNat
 |.wrap k a=>k.wrap (a.af ae)
 |.max a b=>Max.max (a.af ae) (b.af ae)
 |.min a b=>Min.min (a.af ae) (b.af ae)
 |.bits op k a b=>Go.bits op k (a.af ae) (b.af ae)
 |.len k=>((ae k).list.length:Int)
 |.get k i j=>cellAt (ae k).list (i.af ae) j
 |.kZ i n a b=>if i.af ae=(n:Int)then a.af ae else b.af ae
inductive BE where
 |v (k:Nat)
 |c (x:Bool)
 |lt (a b:IE)
 |le (a b:IE)
 |eq (a b:IE)
 |not (a:BE)
 |and (a b:BE)
 |or (a b:BE)
 |iff (a b:BE)
 |tu (a:IE)
 deriving DecidableEq,Repr,Inhabited
def BE.af(ae:az):BE->Bool
 |.v k=>(ae k).bool
 |.c x=>x
 |.lt a b=>decide (a.af ae<b.af ae)
 |.le a b=>decide (a.af ae<=b.af ae)
 |.eq a b=>decide (a.af ae=b.af ae)
 |.not a=>!(a.af ae)
 |.and a b=>a.af ae&&b.af ae
 |.or a b=>a.af ae||b.af ae
 |.iff a b=>a.af ae==b.af ae
 |.tu a=>decide (a.af ae≠0)
def IE.mk(e:IE):IE:=
 match e with
 |.add (.c a) (.c b)=>.c (a+b)
 |.add a (.c 0)=>a
 |.add (.c 0) a=>a
 |.sub (.c a) (.c b)=>.c (a-b)
 |.sub a (.c 0)=>a
 |.mul (.c a) (.c b)=>.c (a*b)
 |.mul (.c 1) a=>a
 |.mul a (.c 1)=>a
 |.tdiv (.c a) (.c b)=>.c (a.tdiv b)
 |.tmod (.c a) (.c b)=>.c (a.tmod b)
 |.ediv (.c a) n=>.c (a/(n:Int))
 |.emod (.c a) n=>.c (a%(n:Int))
 |.shl (.c a) (.c b)=>.c (a*2 ^ b.toNat)
 |.shr (.c a) (.c b)=>.c (a/2 ^ b.toNat)
 |.wrap k (.c a)=>.c (k.wrap a)
 |.max (.c a) (.c b)=>.c (Max.max a b)
 |.min (.c a) (.c b)=>.c (Min.min a b)
 |.bits op k (.c a) (.c b)=>.c (Go.bits op k a b)
 |.kZ (.c i) n a b=>if i=(n:Int)then a else b
 |e=>e
def BE.mk(e:BE):BE:=
 match e with
 |.lt (.c a) (.c b)=>.c (decide (a<b))
 |.le (.c a) (.c b)=>.c (decide (a<=b))
 |.eq (.c a) (.c b)=>.c (decide (a=b))
 |.not (.c a)=>.c (!a)
 |.not (.not a)=>a
 |.and (.c true) a=>a
 |.and (.c false) _=>.c false
 |.and a (.c true)=>a
 |.and _ (.c false)=>.c false
 |.or (.c false) a=>a
 |.or (.c true) _=>.c true
 |.or a (.c false)=>a
 |.or _ (.c true)=>.c true
 |.iff (.c true) a=>a
 |.iff a (.c true)=>a
 |.tu (.c a)=>.c (decide (a≠0))
 |e=>e
def BE.iW(G g:BE):Bool:=
 decide (g = .c true)||decide (G=g)||(match G with
   |.and x y=>x.iW g||y.iW g
   |_=>false)
def BE.under(G n:BE):BE:=if G = .c true then n else .or (.not G) n
def inR(k:IntKind)(e:IE):BE:=
 match e with
 |.c n=>.c (decide (k.min<=n)&&decide (n<=k.max))
 |e=>.and (.le (.c k.min) e) (.le e (.c k.max))
inductive CK where
 |i (k:IntKind)
 |b
 |f
 deriving DecidableEq,Repr,Inhabited
inductive dp where
 |i (k:IntKind) (e:IE)
 |b (e:BE)
 |s (row:Nat)
 |kK
 deriving DecidableEq,Repr,Inhabited
inductive ak where
 |i (k:IntKind) (e:IE)
 |b (e:BE)
 |p (ny off:Nat)
 |ep (row sz:Nat) (i:IE) (j:Nat)
 |pi (ny off sz n:Nat) (x:IE)
 |s (row:Nat)
 |kK
 |TL
 |f (f:FuncId)
 |fn (g:FuncId) (dx:List (Bool×Nat))
 |fl (e:IE)
 |str (bs:List UInt8)
 |TM
 |Hj
 |bf (g:FuncId) (agg:Bool) (ls:List dp)
 |vw (row sz:Nat) (lo n:IE)
 |cs (row:Nat)
 |bs (ny n sz:Nat)
 |kb (row:Nat) (bytes:List UInt8)
 |ab (row i:Nat) (b:UInt8)
 deriving DecidableEq,Repr,Inhabited
def dp.up:dp->ak
 |.i k e=>.i k e
 |.b e=>.b e
 |.s r=>.s r
 |.kK=>.kK
def ak.down:ak->Option dp
 |.i k e=>some (.i k e)
 |.b e=>some (.b e)
 |.s r=>some (.s r)
 |.kK=>some .kK
 |_=>none
inductive V1 where
 |one (l:ak)
 |agg (ls:List ak)
 deriving DecidableEq,Repr,Inhabited
inductive SV where
 |v (x:V1)
 |Hc (xs:List V1)
 deriving DecidableEq,Repr,Inhabited
structure Ph where
 r:Nat->Nat
 v:Nat->Option Addr×Nat×Nat
 z:Nat->Prop
def Ph.o6(ph:Ph)(k n:Nat):Ph:={ph with r:=fun j=>if j=k then n else ph.r j}
def Ph.vH(ph:Ph)(k:Nat)(x:Option Addr×Nat×Nat):Ph:={ph with v:=fun j=>if j=k then x else ph.v j}
def Ph.val(ph:Ph)(k:Nat):Value:=.slice (ph.v k).1 (ph.v k).2.1 (ph.v k).2.2
def dp.af(ae:az)(ph:Ph):dp->Value
 |.i k e=>.int k (e.af ae)
 |.b e=>.bool (e.af ae)
 |.s row=>ph.val row
 |.kK=>.slice none 0 0
def mc(ph:Ph)(c:Bool×Nat):Value:=if c.1 then .pointer (ph.v c.2).1 else .pointer (some ⟨ph.r c.2,0,none⟩)
def ak.af(ae:az)(ph:Ph):ak->Value
 |.i k e=>.int k (e.af ae)
 |.b e=>.bool (e.af ae)
 |.p id off=>.pointer (some ⟨ph.r id,off,none⟩)
 | .ep row sz x j=>match(ph.v row).1 with
   |some a=>.pointer (some (a.add ((x.af ae).toNat*sz+j)))
   |none=>.pointer none
 |.pi id off sz _ x=>.pointer (some ⟨ph.r id,off+(x.af ae).toNat*sz,none⟩)
 |.s row=>ph.val row
 |.kK=>.slice none 0 0
 |.TL=>.pointer none
 |.f g=>.func (.func g) #[] #[]
 |.fn g dx=>.func (.func g) #[] (dx.map (mc ph)).toArray
 |.fl e=>.float .f64 (e.af ae).toNat
 |.str bytes=>.string ⟨bytes.toArray⟩
 |.TM=>.nilFunc
 |.Hj=>.nilIface
 |.bf g agg ls=>.func (.func g) #[if agg then .agg (ls.map (dp.af ae ph)).toArray else(ls.map (dp.af ae ph)).headD undef] #[]
 |.vw row sz lo n=>.slice (if(ph.v row).2.2=(lo.af ae).toNat then(ph.v row).1 else(ph.v row).1.map (·.add ((lo.af ae).toNat*sz))) (n.af ae).toNat ((ph.v row).2.2-(lo.af ae).toNat)
 |.cs row=>.slice (ph.v row).1 (ph.v row).2.1 (ph.v row).2.1
 |.bs id n _=>.slice (some ⟨ph.r id,0,none⟩) n n
 |.kb row _=>ph.val row
 | .ab row m _=>match(ph.v row).1 with
   |some a=>.pointer (some (a.add m))
   |none=>.pointer none
def V1.af(ae:az)(ph:Ph):V1->Value
 |.one l=>l.af ae ph
 |.agg ls=>.agg (ls.map (ak.af ae ph)).toArray
def SV.af(ae:az)(ph:Ph):SV->Value
 |.v x=>x.af ae ph
 |.Hc xs=>.tuple (xs.map (V1.af ae ph)).toArray
structure aT where
 g:BE
 sv:SV
 deriving DecidableEq,Repr,Inhabited
def aT.af(ae:az)(ph:Ph)(s:aT):Value:=if s.g.af ae then s.sv.af ae ph else undef
structure iA where
 id:Nat
 ty:TypeId
 cells:List ak
 deriving DecidableEq,Repr,Inhabited
structure Row where
 id:Nat
 e:TypeId
 ks:List CK
 lv:Nat
 own:Bool
 g:BE
 deriving DecidableEq,Repr,Inhabited
inductive NK where
 |c (k:CK)
 |s (e:TypeId) (k:CK)
 deriving DecidableEq,Repr,Inhabited
structure dX where
 id:Nat
 e:TypeId
 aN:List NK
 lv:Nat
 g:BE
 own:Bool
 deriving DecidableEq,Repr,Inhabited
structure St where
 tmps:List (Option aT)
 aX:List iA
 rows:List Row
 a8:List dX:=[]
 next:Nat
 o0:List (Nat×Nat)
 deriving DecidableEq,Repr,Inhabited
def St.has(st:St)(k:Nat):Bool:=decide (k<st.next)||st.o0.any fun d=>decide (d.1<=k)&&decide (k<d.2)
def St.free(st:St)(a n:Nat):Bool:=decide (st.next<=a)&&st.o0.all fun d=>decide (a+n<=d.1)||decide (d.2<=a)
def xb(d:Nat×Nat):List (Nat×Nat)->List (Nat×Nat)
 | []=>[d]
 |x::xs=>if x.1<d.1 then d::x::xs else x::xb d xs
def St.bB(st:St)(a n:Nat):St:={st with o0:=xb (a,a+n) st.o0}
def IE.all(p:Nat->Bool):IE->Bool
 |.v k| .len k=>p k
 |.c _=>true
 |.add a b| .sub a b| .mul a b| .tdiv a b| .tmod a b| .shl a b| .shr a b| .max a b| .min a b| .bits _ _ a b=>a.all p&&b.all p
 |.ediv a _| .emod a _| .wrap _ a=>a.all p
 |.get k i _=>p k&&i.all p
 |.kZ i _ a b=>i.all p&&(a.all p&&b.all p)
def BE.all(p:Nat->Bool):BE->Bool
 |.v k=>p k
 |.c _=>true
 |.lt a b| .le a b| .eq a b=>a.all p&&b.all p
 |.not a=>a.all p
 |.and a b| .or a b| .iff a b=>a.all p&&b.all p
 |.tu a=>a.all p
def dp.all(p:Nat->Bool):dp->Bool
 |.i _ e=>e.all p
 |.b e=>e.all p
 |.s row=>p row
 |.kK=>true
def ak.all(p:Nat->Bool):ak->Bool
 |.i _ e=>e.all p
 |.b e=>e.all p
 |.p id _=>p id
 |.ep row _ x _=>p row&&x.all p
 |.pi id _ _ _ x=>p id&&x.all p
 |.s row=>p row
 |.kK| .TL| .f _=>true
 |.fn _ dx=>dx.all fun c=>p c.2
 |.fl e=>e.all p
 |.str _| .TM| .Hj=>true
 |.bf _ _ ls=>ls.all (dp.all p)
 |.vw row _ lo n=>p row&&(lo.all p&&n.all p)
 |.cs row=>p row
 |.bs id _ _=>p id
 |.kb row _=>p row
 |.ab row _ _=>p row
def bq(p:Nat->Bool):List ak->Bool
 | []=>true
 |l::ls=>l.all p&&bq p ls
def V1.all(p:Nat->Bool):V1->Bool
 |.one l=>l.all p
 |.agg ls=>bq p ls
def dF(p:Nat->Bool):List V1->Bool
 | []=>true
 |x::xs=>x.all p&&dF p xs
def SV.all(p:Nat->Bool):SV->Bool
 |.v x=>x.all p
 |.Hc xs=>dF p xs
def aT.all(p:Nat->Bool)(s:aT):Bool:=s.g.all p&&s.sv.all p
def iA.all(p:Nat->Bool)(b:iA):Bool:=p b.id&&bq p b.cells
def Row.all(p:Nat->Bool)(r:Row):Bool:=p r.id&&(p r.lv&&r.g.all p)
def dX.all(p:Nat->Bool)(r:dX):Bool:=p r.id&&(p r.lv&&r.g.all p)
inductive CT where
 |c (k:CK)
 |s (e:TypeId) (ks:List CK)
 |n (e:TypeId) (aN:List NK)
 deriving DecidableEq,Repr,Inhabited
inductive VT where
 |one (c:CT)
 |agg (cs:List CT)
 |ptr (e:TypeId) (ks:List CK)
 |fn (g:FuncId) (cs:List (TypeId×IntKind))
 deriving DecidableEq,Repr,Inhabited
structure bR where
 args:List VT
 res:List VT
 cons:Nat:=0
 deriving DecidableEq,Repr,Inhabited
inductive DE where
 |i (e:IE)
 |b (e:BE)
 |l (k:Nat)
 |nil
 |rows (es:List IE)
 |uV (xs:List (Sum IE BE))
 deriving DecidableEq,Repr,Inhabited
def b9(ae:az):Sum IE BE->Int
 |.inl e=>e.af ae
 |.inr b=>if b.af ae then 1 else 0
def DE.af(ae:az):DE->DV
 |.i e=>.i (e.af ae)
 |.b e=>.b (e.af ae)
 |.l k=>.l (ae k).list
 |.nil=>.l []
 |.rows es=>.l (es.map fun e=>[e.af ae])
 |.uV xs=>.l [xs.map (b9 ae)]
def VT.bI:VT->List CT
 |.one c=>[c]
 |.agg cs=>cs
 |.ptr e ks=>[.s e ks]
 |.fn _ cs=>cs.map fun c=>.s c.1 [.i c.2]
def bI(vs:List VT):List CT:=vs.flatMap VT.bI
inductive cc where
 |c (x:Sum IE BE)
 |s (lv:Nat)
 |nil
 deriving DecidableEq,Repr,Inhabited
def cc.head(ae:az):cc->Int
 |.c x=>b9 ae x
 |.s lv=>((ae lv).list.length:Int)
 |.nil=>0
def cc.tail(ae:az):cc->List Int
 |.s lv=>(ae lv).list.map fun r=>r.getD 0 0
 |_=>[]
inductive cU where
 |lit (rows:List (List (Sum IE BE)))
 |app (a b:Nat)
 |set (a:Nat) (i:IE) (j:Nat) (x:Sum IE BE)
 |zM (a:Nat) (i:IE) (xs:List (Sum IE BE))
 |BG (a:Nat) (i:IE) (j:Nat) (xs:List (Sum IE BE))
 |take (a:Nat) (n:IE)
 |rep (n:IE) (row:List Int)
 |cp (a:Nat)
 |sub (a:Nat) (i:IE) (aN:List NK) (j:Nat)
 |Nc (a b:Nat)
 |BL (rows:List (List cc))
 deriving DecidableEq,Repr,Inhabited
def o8:List NK->List Int->List Int->Nat->List Int
 | [],_,_,_=>[]
 |.c _::_,_,_,0=>[]
 |.c _::aN,hs,rest,j+1=>o8 aN hs.tail rest j
 |.s _ _::_,hs,rest,0=>rest.take (hs.headD 0).toNat
 |.s _ _::aN,hs,rest,j+1=>o8 aN hs.tail (rest.drop (hs.headD 0).toNat) j
def ew(aN:List NK)(r:List Int)(j:Nat):List Int:=o8 aN (r.take aN.length) (r.drop aN.length) j
def nL(r:List Int)(j:Nat)(x:Int):List Int:=if j<r.length then r.set j x else r++(List.replicate (j-r.length) 0++[x])
def jG(r:List Int)(j:Nat):List Int->List Int
 | []=>r
 |x::xs=>jG (nL r j x) (j+1) xs
def setAt(xs:List (List Int))(i:Int)(j:Nat)(x:Int):List (List Int):=xs.modify i.toNat (fun r=>nL r j x)
def cU.af(ae:az):cU->List (List Int)
 |.lit rows=>rows.map fun r=>r.map (b9 ae)
 |.app a b=>(ae a).list++(ae b).list
 |.set a i j x=>setAt (ae a).list (i.af ae) j (b9 ae x)
 |.zM a i xs=>(ae a).list.modify (i.af ae).toNat (fun _=>xs.map (b9 ae))
 |.BG a i j xs=>(ae a).list.modify (i.af ae).toNat (fun r=>jG r j (xs.map (b9 ae)))
 |.take a n=>(ae a).list.take (n.af ae).toNat
 |.rep n row=>List.replicate (n.af ae).toNat row
 |.cp a=>(ae a).list
 |.sub a i aN j=>(ew aN ((ae a).list.getD (i.af ae).toNat []) j).map fun x=>[x]
 |.Nc a b=>(ae b).list.take (ae a).list.length++(ae a).list.drop (ae b).list.length
 |.BL rows=>rows.map fun r=>r.map (cc.head ae)++r.flatMap (cc.tail ae)
inductive Ev where
 |aG (p:BE)
 |call (f:FuncId) (g:BE) (args:List DE) (res:List VT) (base:Nat)
 |bW (id:Nat) (op:cU)
 |du (p:BE) (e:IE)
 deriving DecidableEq,Repr,Inhabited
inductive au where
 |ret (bG:List DE)
 |stuck (why:String)
 |ev (e:Ev) (t:au)
 |ite (c:BE) (t e:au)
 |loop (id:Nat) (entry:List DE) (ks:List CT) (base:Nat) (body:au)
 |again (id:Nat) (bG:List DE)
 |fail (e:IE)
 |fz (x:Nat) (tp t:au)
 |pop (t:au)
 deriving DecidableEq,Repr,Inhabited
structure Hint where
 cells:List (Nat×Nat)
 rows:List (Nat×TypeId×List CK)
 gF:List Nat:=[]
 a8:List (Nat×TypeId×List NK):=[]
 abT:List (Nat×Nat×TypeId×List CK):=[]
 deriving Inhabited
structure kp where
 sig:FuncId->Option bR
 gB:Bool
 loops:List (Nat×Hint)
 splits:List (Nat×Nat×Nat)
 inl:List FuncId:=[]
 aG:Option FuncId:=none
 xr:Option FuncId:=none
 cR:TypeId:=0
 pc:TypeId:=0
 Wz:List (Nat×List Nat×List Nat):=[]
 FH:List Nat:=[]
 yd:List (Nat×List Int):=[]
 dV:Option St:=none
 yY:Option FuncId:=none
 bsl:List TypeId:=[]
 zW:Option (Nat×Nat):=none
 no:List (Nat×Int):=[]
 deriving Inhabited
def zG(P:Program)(g:TypeId->Option (List CK)):Nat->List Field->Option (List CK)
 |_,[]=>some []
 | off,f::fs=>if f.offset=off then(match g f.type with
   | some m=>if P.cellsOf f.type=m.length/\0<m.length then(match zG P g (off+m.length) fs with
     |some r=>some (m++r)
     |none=>none)else none
   |none=>none)else none
def flat(P:Program):Nat->TypeId->Option (List CK)
 |0,_=>none
 | n+1,t=>
   match P.underlying t with
   |some (.int k)=>some [.i k]
   |some .bool=>some [.b]
   |some (.struct fs)=>zG P (flat P n) 0 fs.toList
   | some (.array len e)=>match flat P n e with
     |some m=>if P.cellsOf e=m.length/\0<m.length then some (List.replicate len m).flatten else none
     |none=>none
   |_=>none
def gH(P:Program)(t:TypeId):Bool:=
 match P.underlying t with
 |some (.struct _)|some (.array _ _)=>true
 |_=>false
def ofConst:Value->Option V1
 |.int k n=>some (.one (.i k (.c n)))
 |.bool x=>some (.one (.b (.c x)))
 |.slice none 0 0=>some (.one .kK)
 |.string s=>some (.one (.str s.data.toList))
 |.nilIface=>some (.one .Hj)
 |_=>none
def KN(st:St)(G:BE):Operand->Option SV
 | .tmp t=>match st.tmps[t]? with
   |some (some s)=>if G.iW s.g then some s.sv else none
   |_=>none
 |.const v=>(ofConst v).map SV.v
 |.func f=>some (.v (.one (.f f)))
 |.global _=>none
def kS(st:St)(G:BE)(x:Operand):Option V1:=
 match KN st G x with
 |some (.v x)=>some x
 |_=>none
def bA(st:St)(G:BE)(x:Operand):Option ak:=
 match KN st G x with
 |some (.v (.one l))=>some l
 |_=>none
def Nu(wr:Bool)(k:IntKind)(e:IE):List BE×ak:=
 match e with
 |.c n=>([],.i k (.c (k.wrap n)))
 |e=>if wr then([],.i k (.wrap k e))else([inR k e],.i k e)
def arith(wr:Bool)(k:IntKind)(e:IE):List BE×ak:=Nu wr k e.mk
def zD:Nat->Int->Option Nat
 |0,_=>none
 |m+1,n=>if n+1=((2 ^ m:Nat):Int)then some m else zD m n
def Nv(wr:Bool)(op:BinOp)(x y:ak):Option (List BE×ak):=
 match op,x,y with
 |.shl,.i k a,.i _ (.c n)=>if 0<=n/\n<=62/\n<=k.bits then some (arith wr k (.mul a (.c ((2 ^ n.toNat:Nat):Int))))else none
 |.shl,.i k a,.i _ b=>let r:=arith wr k (.shl a b);some ((BE.le (.c 0) b).mk::(BE.le b (.c (k.bits:Int))).mk::r.1,r.2)
 |.shr,.i k a,.i _ (.c n)=>if 0<=n/\n<=64/\n<=k.bits then some ([],.i k (IE.ediv a (2 ^ n.toNat)).mk)else none
 |.shr,.i k a,.i _ b=>some ([(BE.le (.c 0) b).mk,(BE.le b (.c (k.bits:Int))).mk],.i k (IE.shr a b).mk)
 |.add,.i k a,.i k' b=>if k=k' then some (arith wr k (.add a b))else none
 |.sub,.i k a,.i k' b=>if k=k' then some (arith wr k (.sub a b))else none
 |.mul,.i k a,.i k' b=>if k=k' then some (arith wr k (.mul a b))else none
 |.quo,.i k a,.i k' b=>if k=k' then let r:=arith wr k (.tdiv a b);some ((BE.tu b).mk::r.1,r.2)else none
 |.rem,.i k a,.i k' b=>if k=k' then some ([(BE.tu b).mk],.i k (IE.tmod a b).mk)else none
 |.and,.i k a,.i k' (.c n)=>if k=k' then(match k,zD 63 n with
     |.i64,some m=>some ([],.i k (IE.emod a (2 ^ m)).mk)
     |.u64,some m=>some ([],.i k (IE.emod a (2 ^ m)).mk)
     |_,_=>some ([],.i k (IE.bits .and k a (.c n)).mk))else none
 |.and,.i k a,.i k' b=>if k=k' then some ([],.i k (IE.bits .and k a b).mk)else none
 |.or,.i k a,.i k' b=>if k=k' then some ([],.i k (IE.bits .or k a b).mk)else none
 |.xor,.i k a,.i k' b=>if k=k' then some ([],.i k (IE.bits .xor k a b).mk)else none
 |.andNot,.i k a,.i k' b=>if k=k' then some ([],.i k (IE.bits .andNot k a b).mk)else none
 |.lss,.i k a,.i k' b=>if k=k' then some ([],.b (BE.lt a b).mk)else none
 |.leq,.i k a,.i k' b=>if k=k' then some ([],.b (BE.le a b).mk)else none
 |.gtr,.i k a,.i k' b=>if k=k' then some ([],.b (BE.lt b a).mk)else none
 |.geq,.i k a,.i k' b=>if k=k' then some ([],.b (BE.le b a).mk)else none
 |.eql,.i k a,.i k' b=>if k=k' then some ([],.b (BE.eq a b).mk)else none
 |.neq,.i k a,.i k' b=>if k=k' then some ([],.b (BE.not (BE.eq a b).mk).mk)else none
 |_,_,_=>none
def Hn:ak->ak->Option BE
 |.i k a,.i k' b=>if k=k' then some (BE.eq a b).mk else none
 |.b a,.b b=>some (BE.iff a b).mk
 |_,_=>none
def qu:List ak->List ak->Option BE
 | [],[]=>some (.c true)
 | x::xs,y::ys=>match Hn x y,qu xs ys with
   |some p,some q=>some (BE.and p q).mk
   |_,_=>none
 |_,_=>none
def fits:CK->ak->Bool
 |.i k,.i k' _=>decide (k=k')
 |.b,.b _=>true
 |.f,.fl _=>true
 |_,_=>false
def mN:List CK->List ak->Bool
 | [],[]=>true
 |k::ks,l::ls=>fits k l&&mN ks ls
 |_,_=>false
def XU(P:Program)(t:TypeId)(x y:V1):Option BE:=
 match x,y with
 | .one (.b a),.one (.b b)=>match P.underlying t with
   |some .bool=>some (BE.iff a b).mk
   |_=>none
 | .agg xs,.agg ys=>match flat P 16 t with
   |some ks=>if mN ks xs&&mN ks ys&&gH P t && !P.eqGuardType P.depth t && !wV P 16 t then qu xs ys else none
   |none=>none
 |_,_=>none
where
 wV (P:Program):Nat->TypeId->Bool
   |0,_=>true
   | n+1,t=>match P.underlying t with
     |some (.struct fs)=>P.stoodInHeld t||fs.toList.any fun f=>f.name == "_" ||wV P n f.type
     |some (.array _ e)=>wV P n e
     |_=>false
def gj(st:St)(id:Nat):Option iA:=st.aX.find? (fun b=>b.id==id)
def bK(st:St)(id:Nat):Option Row:=st.rows.find? (fun r=>r.id==id)
def eT(st:St)(id:Nat):Option dX:=st.a8.find? (fun r=>r.id==id)
def qv(lv:Nat)(i:IE)(j:Nat):CK->ak
 |.i k=>.i k (.get lv i j)
 |.b=>.b (.tu (.get lv i j))
 |.f=>.fl (.get lv i j)
def nz(lv:Nat)(i:IE):Nat->List CK->List ak
 |_,[]=>[]
 |j,k::ks=>qv lv i j k::nz lv i (j+1) ks
def Ho(ls:List ak)(off n:Nat):Option (List ak):=if off+n<=ls.length then some ((ls.drop off).take n)else none
def rV(P:Program)(t:TypeId)(cs:List ak)(off:Nat):Option V1:=
 if(P.underlying t).isSome&&decide (0<P.cellsOf t)then
   (if gH P t then(Ho cs off (P.cellsOf t)).map V1.agg else(cs[off]?).map V1.one)
 else none
def tA(x:IE):Nat->List ak->Option ak
 |_,[]=>none
 |_,[l]=>some l
 | j,l::ls=>match l,tA x (j+1) ls with
   |.i k a,some (.i k' b)=>if k=k' then some (.i k (.kZ x j a b))else none
   |.b p,some (.b q)=>some (.b (.or (.and (.eq x (.c (j:Int))) p) (.and (.not (.eq x (.c (j:Int)))) q)))
   |_,_=>none
def rW(cells:List ak)(off sz:Nat):Nat->Option (List ak)
 |0=>some []
 | n+1=>match cells[off]?,rW cells (off+sz) sz n with
   |some l,some ls=>some (l::ls)
   |_,_=>none
def Fo(cells:List ak)(off sz n:Nat)(x:IE):Option ak:=
 match rW cells off sz n with
 |some ls=>tA x 0 ls
 |none=>none
def rX(cells:List ak)(sz n:Nat)(x:IE):Nat->Nat->Option (List ak)
 |_,0=>some []
 | off,m+1=>match Fo cells off sz n x,rX cells sz n x (off+1) m with
   |some l,some ls=>some (l::ls)
   |_,_=>none
def Nz(P:Program)(t:TypeId)(r:Row)(i:IE)(j:Nat):Option (List BE×V1):=
 match r.ks,i,j with
 | [k],.c (.ofNat n),0=>if(P.underlying t).isSome&&decide (0<P.cellsOf t)&&gH P t then
     some ([(BE.le (.c ((n+P.cellsOf t:Nat):Int)) (.len r.lv)).mk],.agg ((List.range (P.cellsOf t)).map fun(q:Nat)=>qv r.lv (.c ((n+q:Nat):Int)) 0 k))else none
 |_,_,_=>none
def Cl(P:Program)(st:St)(G:BE)(t:TypeId):ak->Option (List BE×V1)
 | .p id off=>match gj st id with
   |some b=>(rV P t b.cells off).map fun v=>([],v)
   |none=>none
 | .pi id off sz n x=>match gj st id with
   |some b=>if !((P.underlying t).isSome&&decide (0<P.cellsOf t))then none else if gH P t then(rX b.cells sz n x off (P.cellsOf t)).map fun ls=>([(BE.le (.c 0) x).mk,(BE.lt x (.c (n:Int))).mk],V1.agg ls)
       else(Fo b.cells off sz n x).map fun l=>([(BE.le (.c 0) x).mk,(BE.lt x (.c (n:Int))).mk],V1.one l)
   |none=>none
 | .ep row sz i j=>match bK st row with
   |some r=>if G.iW r.g&&decide (r.ks.length=sz)then
       (match rV P t (nz r.lv i 0 r.ks) j with
       |some v=>some ([(BE.le (.c 0) i).mk,(BE.lt i (.len r.lv)).mk],v)
       |none=>Nz P t r i j)else none
   |none=>none
 | .ab row i b=>match bK st row with
   |some r=>if G.iW r.g&&decide (r.ks=[.i .u8])&&(P.underlying t).isSome&&decide (P.cellsOf t=1) && !gH P t then
       some ([(BE.lt (.c (i:Int)) (.len r.lv)).mk,(BE.eq (.get r.lv (.c (i:Int)) 0) (.c (b.toNat:Int))).mk],.one (.i .u8 (.c (b.toNat:Int))))else none
   |none=>none
 |_=>none
def Dz(row sz:Nat)(i:IE)(j o:Nat):ak:=
 match sz,i,j with
 |1,.c (.ofNat n),0=>.ep row 1 (.c ((n+o:Nat):Int)) 0
 |_,_,_=>.ep row sz i (j+o)
def sc(P:Program)(s:TypeId)(f:Nat):Option (Nat×TypeId):=
 match P.underlying s with
 | some (.struct fs)=>match fs[f]? with
   |some fd=>if P.cellsOf fd.type=0 then none else some (fd.offset,fd.type)
   |none=>none
 |_=>none
def NF(P:Program)(st:St)(G:BE)(t:TypeId)(x:ak)(k:IntKind)(i:IE):Option (List BE×ak):=
 match P.underlying t,x with
 | some (.array len e),.p id off=>match i with
   |.c n=>if 0<=n/\n<(len:Int)/\1<len/\(P.info? e).isSome=true then some ([],.p id (off+n.toNat*P.cellsOf e))else none
   |x=>if 1<len/\(P.info? e).isSome=true then some ([(BE.le (.c 0) x).mk,(BE.lt x (.c (len:Int))).mk],.pi id off (P.cellsOf e) len x)else none
 | some (.array len e),.ep row sz r j=>match bK st row with
   |some rr=>if r = .c 0/\j=0/\rr.ks.length=sz/\P.cellsOf e=sz/\(P.info? e).isSome=true/\1<len/\G.iW rr.g=true then
       some ([(BE.le (.c 0) i).mk,(BE.lt i (.c (len:Int))).mk,(BE.lt i (.len rr.lv)).mk],.ep row sz i 0)else(match i with
   | .c n=>match bK st row with
     |some rr=>if 0<=n/\n<(len:Int)/\1<len/\(P.info? e).isSome=true/\G.iW rr.g=true then some ([(BE.le (.c 0) r).mk,(BE.lt r (.len rr.lv)).mk],.ep row sz r (j+n.toNat*P.cellsOf e))else none
     |none=>none
   |_=>none)
   |none=>none
 | some (.slice e),.s row=>match bK st row with
   |some r=>if G.iW r.g&&decide (P.cellsOf e=r.ks.length)then some ([(BE.le (.c 0) i).mk,(BE.lt i (.len r.lv)).mk],.ep row r.ks.length i 0)else none
   | none=>match eT st row with
     |some r=>if G.iW r.g&&decide (P.cellsOf e=r.aN.length)then some ([(BE.le (.c 0) i).mk,(BE.lt i (.len r.lv)).mk],.ep row r.aN.length i 0)else none
     |none=>none
 | some (.slice e),.vw row sz lo n=>match bK st row with
   |some r=>if G.iW r.g&&decide (P.cellsOf e=sz)&&decide (r.ks.length=sz)then some ([(BE.le (.c 0) i).mk,(BE.lt i n).mk,(BE.le (.c 0) lo).mk,(BE.le (.add lo n) (.len r.lv)).mk],.ep row sz (IE.add lo i).mk 0)else none
   |none=>none
 | some (.slice e),.kb row bs=>match bK st row with
   | some r=>if G.iW r.g&&decide (P.cellsOf e=1)&&decide (r.ks.length=1)then(match i with
     |.c m=>if 0<=m then(bs[m.toNat]?).map fun b=>([(BE.lt (.c m) (.len r.lv)).mk],.ab row m.toNat b)else none
     |_=>none)else none
   |none=>none
 | some (.slice e),.bs id n sz=>if decide (P.cellsOf e=sz)&&(P.info? e).isSome then(match i with
   |.c m=>if 0<=m/\m<(n:Int)then some ([],.p id (m.toNat*sz))else none
   |x=>some ([(BE.le (.c 0) x).mk,(BE.lt x (.c (n:Int))).mk],.pi id 0 sz n x))else none
 |_,_=>none
def iJ(cells:List ak)(off:Nat):List ak->List ak
 | []=>cells
 |l::ls=>iJ (cells.set off l) (off+1) ls
def V1.leaves:V1->List ak
 |.one l=>[l]
 |.agg ls=>ls
def Co(place:Nat->Option (Nat×Nat))(cells:List ak):List (Nat×V1)->Option (List ak)
 | []=>some cells
 | (i,v)::rest=>match place i with
   |none=>none
   | some (off,size)=>if v.leaves.length≠size\/off+v.leaves.length>cells.length then none
     else Co place (iJ cells off v.leaves) rest
def sa:Value->Option ak
 |.int k n=>some (.i k (.c n))
 |.bool x=>some (.b (.c x))
 |.slice none 0 0=>some .kK
 |.pointer none=>some .TL
 |.nilFunc=>some .TM
 |.nilIface=>some .Hj
 |.string s=>some (.str s.data.toList)
 |_=>none
def pJ(P:Program)(t:TypeId):Option V1:=
 match(P.info? t).bind (·.zero)with
 |some (.agg cs)=>(cs.toList.mapM sa).map V1.agg
 |some v=>(sa v).map V1.one
 |none=>none
def uO(P:Program)(t:TypeId):Option (Nat->Option (Nat×Nat)):=
 match P.underlying t with
 |some (.struct fs)=>if fs.toList.all (fun f=>(P.info? f.type).isSome)then some fun i=>(fs[i]?).map fun f=>(f.offset,P.cellsOf f.type)else none
 |some (.array _ e)=>if(P.info? e).isSome then some fun i=>some (i*P.cellsOf e,P.cellsOf e)else none
 |_=>none
def im(st:St)(G:BE):List (Nat×Operand)->Option (List (Nat×V1))
 | []=>some []
 | (i,x)::rest=>match kS st G x,im st G rest with
   |some v,some l=>some ((i,v)::l)
   |_,_=>none
def ly(st:St)(G:BE):List Operand->Option (List V1)
 | []=>some []
 | x::rest=>match kS st G x,ly st G rest with
   |some v,some l=>some (v::l)
   |_,_=>none
def sb(st:St)(G:BE):List Operand->Option (List (Bool×Nat))
 | []=>some []
 | x::rest=>match bA st G x,sb st G rest with
   |some (.p id 0),some l=>some ((false,id)::l)
   |some (.ep row 1 (.c 0) 0),some l=>some ((true,row)::l)
   |_,_=>none
def Fq:List ak->Option (List dp)
 | []=>some []
 | l::ls=>match l.down,Fq ls with
   |some x,some xs=>some (x::xs)
   |_,_=>none
def isConst:Operand->Bool
 |.const _=>true
 |_=>false
def TR(P:Program)(st:St)(G:BE)(t:TypeId)(X Y:Operand)(x y:V1):Option (List BE×BE):=
 match x,y with
 | .one .kK,.one .kK=>match P.underlying t with
   |some (.slice _)=>some ([],.c true)
   |_=>none
 | .one (.s row),.one .kK=>match P.underlying t,bK st row with
   |some (.slice _),some r=>if G.iW r.g then some ([(BE.lt (.c 0) (.len r.lv)).mk],.c false)else none
   |_,_=>none
 | .one (.str a),.one (.str b)=>match P.underlying t with
   |some .string=>some ([],.c (decide (a=b)))
   |_=>none
 | .one .Hj,.one .Hj=>match P.underlying t with
   |some (.interface _)=>if isConst X||isConst Y then some ([],.c true)else none
   |_=>none
 |_,_=>none
def XZ(P:Program)(wr:Bool)(st:St)(G:BE)(op:Op):Option (List BE×SV):=
 match op with
 |.move x| .assign x=>(KN st G x).map fun v=>([],v)
 | .pick c a b=>match bA st G c with
   | some (.b p)=>match bA st (BE.and G p).mk a,bA st (BE.and G (BE.not p).mk).mk b with
     |some (.b x),some (.b y)=>some ([],.v (.one (.b (match y,x with
         |.c false,x=>(BE.and p x).mk
         |y,.c true=>(BE.or p y).mk
         |y,x=>(BE.or (BE.and p x).mk (BE.and (BE.not p).mk y).mk).mk))))
     |_,_=>none
   |_=>none
 | .binOp .eql t x y _=>match kS st G x,kS st G y with
   |some (.one (.i k a)),some (.one (.i k' b))=>(Nv wr .eql (.i k a) (.i k' b)).map fun r=>(r.1,.v (.one r.2))
   | some u,some v=>match TR P st G t x y u v with
     |some r=>some (r.1,.v (.one (.b r.2)))
     |none=>(XU P t u v).map fun p=>([],.v (.one (.b p)))
   |_,_=>none
 | .binOp .neq t x y _=>match kS st G x,kS st G y with
   |some (.one (.i k a)),some (.one (.i k' b))=>(Nv wr .neq (.i k a) (.i k' b)).map fun r=>(r.1,.v (.one r.2))
   | some u,some v=>match TR P st G t x y u v with
     |some r=>some (r.1,.v (.one (.b (BE.not r.2).mk)))
     |none=>(XU P t u v).map fun p=>([],.v (.one (.b (BE.not p).mk)))
   |_,_=>none
 | .binOp op _ x y _=>match bA st G x,bA st G y with
   |some a,some b=>(Nv wr op a b).map fun r=>(r.1,.v (.one r.2))
   |_,_=>none
 | .unOp .not _ x=>match bA st G x with
   |some (.b p)=>some ([],.v (.one (.b (BE.not p).mk)))
   |_=>none
 | .unOp .neg _ x=>match bA st G x with
   |some (.i k a)=>let r:=arith wr k (.sub (.c 0) a);some (r.1,.v (.one r.2))
   |_=>none
 | .convert src dst x=>match bA st G x,P.underlying src,P.underlying dst with
   | some (.i k a),some _,some (.int k')=>
     if k=k'||(decide (k' = .i64)&&decide (k≠.u64))then(let r:=arith wr k' a;some (r.1,.v (.one r.2)))
     else some ([],.v (.one (.i k' (IE.wrap k' a).mk)))
   |_,_,_=>none
 | .load t x=>match bA st G x with
   |some l=>(Cl P st G t l).map fun r=>(r.1,.v r.2)
   |none=>none
 | .fieldAddr s x f=>match bA st G x,sc P s f with
   |some (.p id off),some (o,_)=>some ([],.v (.one (.p id (off+o))))
   |some (.pi id off sz n y),some (o,_)=>some ([],.v (.one (.pi id (off+o) sz n y)))
   | some (.ep row sz i j),some (o,_)=>match bK st row with
     |some r=>if G.iW r.g then some ([(BE.le (.c 0) i).mk,(BE.lt i (.len r.lv)).mk],.v (.one (Dz row sz i j o)))else none
     | none=>match eT st row with
       |some r=>if G.iW r.g then some ([(BE.le (.c 0) i).mk,(BE.lt i (.len r.lv)).mk],.v (.one (.ep row sz i (j+o))))else none
       |none=>none
   |_,_=>none
 | .field s x f=>match kS st G x,sc P s f with
   |some (.agg cs),some (o,t)=>(rV P t cs o).map fun v=>([],.v v)
   |_,_=>none
 | .indexAddr t x i=>match bA st G x,bA st G i with
   |some l,some (.i k e)=>(NF P st G t l k e).map fun r=>(r.1,.v (.one r.2))
   |_,_=>none
 | .index t x i=>match kS st G x,bA st G i,P.underlying t with
   | some (.agg cs),some (.i _ (.c n)),some (.array len e)=>
     if 0<=n/\n<(len:Int)then(rV P e cs (n.toNat*P.cellsOf e)).map fun v=>([],.v v)else none
   | some (.agg cs),some (.i _ x),some (.array len e)=>
     if(P.underlying e).isSome && !gH P e&&decide (P.cellsOf e=1)&&decide (cs.length=len)then(Fo cs 0 1 len x).map fun l=>([(BE.le (.c 0) x).mk,(BE.lt x (.c (len:Int))).mk],.v (.one l))else none
   | some (.one (.str bs)),some (.i _ (.c n)),some .string=>
     if 0<=n then(bs[n.toNat]?).map fun b=>([],.v (.one (.i .u8 (.c (b.toNat:Int)))))else none
   |_,_,_=>none
 | .nilCheck x=>match bA st G x with
   |some (.p id off)=>some ([],.v (.one (.p id off)))
   | some (.ep row sz i j)=>match bK st row with
     |some r=>if G.iW r.g then some ([(BE.lt (.c 0) (.len r.lv)).mk],.v (.one (.ep row sz i j)))else none
     |none=>none
   |_=>none
 | .makeFunc (.func g) first captured=>match first.toList with
   | []=>(sb st G captured.toList).map fun dx=>([],.v (.one (.fn g dx)))
   | [x]=>if captured.toList=[]then(match kS st G x with
     |some (.one l)=>l.down.map fun l=>([],.v (.one (.bf g false [l])))
     |some (.agg ls)=>(Fq ls).map fun ls=>([],.v (.one (.bf g true ls)))
     |none=>none)else none
   |_=>none
 | .slice t x low high cap=>match P.underlying t,bA st G x with
   | some (.slice e),some (.s row)=>match bK st row with
     | some r=>if G.iW r.g&&decide (P.cellsOf e=r.ks.length)&&decide (r.e=e)&&(P.info? e).isSome then(match low,high,cap with
       | some l,none,none=>match bA st G l with
         |some (.i _ lo)=>some ([(BE.le (.c 0) lo).mk,(BE.le lo (.len r.lv)).mk],.v (.one (.vw row r.ks.length lo (IE.sub (.len r.lv) lo).mk)))
         |_=>none
       | some l,some h,none=>match bA st G l,bA st G h with
         |some (.i _ lo),some (.i _ hi)=>some ([(BE.le (.c 0) lo).mk,(BE.le lo hi).mk,(BE.le hi (.len r.lv)).mk],.v (.one (.vw row r.ks.length lo (IE.sub hi lo).mk)))
         |_,_=>none
       | none,some h,some m=>match bA st G h,bA st G m with
         |some (.i _ hi),some (.i _ mx)=>some ([(BE.eq hi (.len r.lv)).mk,(BE.eq mx (.len r.lv)).mk],.v (.one (.cs row)))
         |_,_=>none
       |_,_,_=>none)else none
     |none=>none
   | some .string,some (.str bs)=>match low,high,cap with
     | some l,none,none=>match bA st G l with
       |some (.i _ (.c lo))=>if 0<=lo/\lo<=(bs.length:Int)then some ([],.v (.one (.str (bs.drop lo.toNat))))else none
       |_=>none
     | none,some h,none=>match bA st G h with
       |some (.i _ (.c hi))=>if 0<=hi/\hi<=(bs.length:Int)then some ([],.v (.one (.str (bs.take hi.toNat))))else none
       |_=>none
     |_,_,_=>none
   |_,_=>none
 |.sliceToArrayPointer t x=>match P.underlying t with
     | some (.array len e)=>if 0<len/\P.cellsOf e=1 then(match bA st G x with
       | some (.s row)=>match bK st row with
         |some r=>if G.iW r.g&&decide (r.ks.length=1)then some ([(BE.le (.c (len:Int)) (.len r.lv)).mk],.v (.one (.ep row 1 (.c 0) 0)))else none
         |none=>none
       | some (.vw row 1 lo n)=>match bK st row with
         |some r=>if G.iW r.g&&decide (r.ks.length=1)then some ([(BE.le (.c (len:Int)) n).mk,(BE.le (.c 0) lo).mk,(BE.le (.add lo n) (.len r.lv)).mk],.v (.one (.ep row 1 lo 0)))else none
         |none=>none
       |_=>none)else none
     |_=>none
 | .extract x n=>match KN st G x with
   |some (.Hc xs)=>(xs[n]?).map fun v=>([],.v v)
   |_=>none
 | .build t parts=>match pJ P t,uO P t,im st G parts.toList with
   |some (.agg z),some place,some ps=>(Co place z ps).map fun cs=>([],.v (.agg cs))
   |_,_,_=>none
 | .call {callee:=.builtin .len,args,argTypes}=>match args.toList,argTypes[0]?.bind P.underlying with
   | [x],some (.slice _)=>match bA st G x with
     | some (.s row)=>match bK st row with
       |some r=>if G.iW r.g then some ([],.v (.one (.i .i64 (.len r.lv))))else none
       | none=>match eT st row with
         |some r=>if G.iW r.g then some ([],.v (.one (.i .i64 (.len r.lv))))else none
         |none=>none
     |some .kK=>some ([],.v (.one (.i .i64 (.c 0))))
     | some (.vw row _ lo n)=>match bK st row with
       |some r=>if G.iW r.g then some ([(BE.le (.c 0) n).mk],.v (.one (.i .i64 n)))else none
       |none=>none
     |some (.bs _ n _)=>some ([],.v (.one (.i .i64 (.c (n:Int)))))
     | some (.kb row bs)=>match bK st row with
       |some r=>if G.iW r.g then some ([(BE.eq (.len r.lv) (.c (bs.length:Int))).mk],.v (.one (.i .i64 (.c (bs.length:Int)))))else none
       |none=>none
     |_=>none
   | [x],some .string=>match bA st G x with
     |some (.str bs)=>some ([],.v (.one (.i .i64 (.c (bs.length:Int)))))
     |_=>none
   |_,_=>none
 | .call {callee:=.builtin .max,args,..}=>match args.toList with
   | [x,y]=>match bA st G x,bA st G y with
     |some (.i k a),some (.i k' b)=>if k=k' then some ([],.v (.one (.i k (IE.max a b).mk)))else none
     |_,_=>none
   | [x,y,z]=>match bA st G x,bA st G y,bA st G z with
     |some (.i k a),some (.i k' b),some (.i k'' c)=>if k=k'/\k=k'' then some ([],.v (.one (.i k (IE.max (IE.max a b).mk c).mk)))else none
     |_,_,_=>none
   |_=>none
 | .call {callee:=.builtin .min,args,..}=>match args.toList with
   | [x,y]=>match bA st G x,bA st G y with
     |some (.i k a),some (.i k' b)=>if k=k' then some ([],.v (.one (.i k (IE.min a b).mk)))else none
     |_,_=>none
   | [x,y,z]=>match bA st G x,bA st G y,bA st G z with
     |some (.i k a),some (.i k' b),some (.i k'' c)=>if k=k'/\k=k'' then some ([],.v (.one (.i k (IE.min (IE.min a b).mk c).mk)))else none
     |_,_,_=>none
   |_=>none
 |_=>none
def St.put(st:St)(dst:Option Tmp)(s:aT):St:=
 match dst with
 |some d=>{st with tmps:=st.tmps.set d (some s) }
 |none=>st
def St.Lk(st:St)(dst:Option Tmp)(s:aT):Option St:=if s.all st.has then some (st.put dst s)else none
def xd(st:St)(b:iA):St:={st with aX:=st.aX.map fun x=>if x.id=b.id then b else x}
def sD(st:St)(G:BE):CT->ak->Option DE
 |.c (.i k),.i k' e=>if k=k' then some (.i e)else none
 |.c .b,.b e=>some (.b e)
 |.c .f,.fl e=>some (.i e)
 | .s e ks,.s row=>match bK st row with
   |some r=>if G.iW r.g&&decide (r.e=e)&&decide (r.ks=ks)then some (.l r.lv)else none
   |none=>none
 |.s _ ks,.kK=>if 0<ks.length then some .nil else none
 | .n e aN,.s row=>match bK st row with
   |some _=>none
   | none=>match eT st row with
     |some r=>if G.iW r.g&&decide (r.e=e)&&decide (r.aN=aN)then some (.l r.lv)else none
     |none=>none
 |.n _ aN,.kK=>if 0<aN.length then some .nil else none
 |_,_=>none
def cz(st:St)(G:BE):List CT->List ak->Option (List DE)
 | [],[]=>some []
 | c::cs,l::ls=>match sD st G c l,cz st G cs ls with
   |some d,some ds=>some (d::ds)
   |_,_=>none
 |_,_=>none
def tE(k:IntKind):List ak->Option (List IE)
 | []=>some []
 | .i k' e::ls=>if k=k' then(match tE k ls with
   |some es=>some (e::es)
   |none=>none)else none
 |_::_=>none
def nM:CK->ak->Option (Sum IE BE)
 |.i k,.i k' e=>if k=k' then some (.inl e)else none
 |.b,.b e=>some (.inr e)
 |_,_=>none
def eL:List CK->List ak->Option (List (Sum IE BE))
 | [],[]=>some []
 | k::ks,l::ls=>match nM k l,eL ks ls with
   |some x,some xs=>some (x::xs)
   |_,_=>none
 |_,_=>none
def Cz(st:St)(G:BE)(e:TypeId)(ks:List CK):ak->Option DE
 | .p id 0=>match gj st id with
   | some b=>match ks with
     | [.i k]=>if b.cells.length<=65536 then(tE k b.cells).map DE.rows else none
     |ks=>if 0<ks.length then(eL ks b.cells).map DE.uV else none
   |none=>none
 | .ep row sz (.c 0) 0=>match bK st row with
   |some r=>if G.iW r.g&&decide (r.e=e)&&decide (r.ks=ks)&&decide (sz=ks.length)then some (.l r.lv)else none
   |none=>none
 |_=>none
def qx(c:Bool×Nat):ak:=if c.1 then .ep c.2 1 (.c 0) 0 else .p c.2 0
def uW(st:St)(G:BE):List (TypeId×IntKind)->List (Bool×Nat)->Option (List DE)
 | [],[]=>some []
 | (e,k)::cs,c::dx=>match Cz st G e [.i k] (qx c),uW st G cs dx with
   |some d,some ds=>some (d::ds)
   |_,_=>none
 |_,_=>none
def Yb(st:St)(G:BE):VT->V1->Option (List DE)
 |.one c,.one l=>(sD st G c l).map fun d=>[d]
 |.agg cs,.agg ls=>cz st G cs ls
 |.ptr e ks,.one l=>(Cz st G e ks l).map fun d=>[d]
 |.fn g cs,.one (.fn g' dx)=>if g=g' then uW st G cs dx else none
 |_,_=>none
def nQ(st:St)(G:BE):List VT->List V1->Option (List DE)
 | [],[]=>some []
 | t::ts,v::vs=>match Yb st G t v,nQ st G ts vs with
   |some d,some ds=>some (d++ds)
   |_,_=>none
 |_,_=>none
def mh(b:iA):List iA->List iA
 | []=>[b]
 |x::xs=>if x.id<b.id then b::x::xs else x::mh b xs
def dr(r:Row):List Row->List Row
 | []=>[r]
 |x::xs=>if x.id<r.id then r::x::xs else x::dr r xs
def cZ(rs l:List Row):List Row:=rs.foldr dr l
def uT(r:dX):List dX->List dX
 | []=>[r]
 |x::xs=>if x.id<r.id then r::x::xs else x::uT r xs
def rA(rs l:List dX):List dX:=rs.foldr uT l
def cP(G:BE)(id:Nat):CT->ak×List Row
 |.c (.i k)=>(.i k (.v id),[])
 |.c .b=>(.b (.v id),[])
 |.c .f=>(.fl (.v id),[])
 |.s e ks=>(.s id,[{id,e,ks,lv:=id,own:=true,g:=G}])
 |.n _ _=>(.s id,[])
def aH(G:BE):Nat->List CT->List ak×List Row
 |_,[]=>([],[])
 |id,c::cs=>let(l,r):=cP G id c;let(ls,rs):=aH G (id+1) cs;(l::ls,r++rs)
def iu(G:BE):Nat->List (TypeId×IntKind)->List (Bool×Nat)×List Row
 |_,[]=>([],[])
 |id,(e,k)::cs=>((true,id)::(iu G (id+1) cs).1,{id,e,ks:=[.i k],lv:=id,own:=true,g:=G}::(iu G (id+1) cs).2)
def jH(G:BE)(id:Nat):VT->V1×List Row
 |.one c=>let(l,r):=cP G id c;(.one l,r)
 |.agg cs=>let(ls,r):=aH G id cs;(.agg ls,r)
 |.ptr e ks=>(.one (.ep id ks.length (.c 0) 0),[{id,e,ks,lv:=id,own:=true,g:=G}])
 |.fn g cs=>(.one (.fn g (iu G id cs).1),(iu G id cs).2)
def cd(G:BE):Nat->List VT->List V1×List Row
 |_,[]=>([],[])
 |id,t::ts=>let(v,r):=jH G id t;let(vs,rs):=cd G (id+t.bI.length) ts;(v::vs,r++rs)
def ei(own:Bool)(G:BE):Nat->List CT->List dX
 |_,[]=>[]
 |id,.n e aN::cs=>⟨id,e,aN,id,G,own⟩::ei own G (id+1) cs
 |id,_::cs=>ei own G (id+1) cs
def pQ:List V1->SV
 | [x]=>.v x
 |xs=>.Hc xs
def qz(x:IE)(l:ak)(sz:Nat)(cells:List ak)(off:Nat):Nat->Nat->Option (List ak)
 |_,0=>some cells
 | j,n+1=>match cells[off]?,l with
   |some (.i k a),.i k' b=>if k=k' then qz x l sz (cells.set off (.i k (.kZ x j b a))) (off+sz) (j+1) n else none
   |some (.b p),.b q=>qz x l sz (cells.set off (.b (.or (.and (.eq x (.c (j:Int))) q) (.and (.not (.eq x (.c (j:Int)))) p)))) (off+sz) (j+1) n
   |_,_=>none
def vJ(x:IE)(sz n:Nat)(cells:List ak)(off:Nat):List ak->Option (List ak)
 | []=>some cells
 | l::ls=>match qz x l sz cells off 0 n with
   |some cs=>vJ x sz n cs (off+1) ls
   |none=>none
def kf:aT:=⟨.c false,.v (.one (.b (.c false)))⟩
def pK(st:St)(key:Nat)(e:TypeId)(ls:List ak)(dst:Option Tmp):Option (List Ev×St):=
 if st.free key 1&&bq st.has ls then
   some ([],{st.bB key 1 with aX:=mh ⟨key,e,ls⟩ st.aX}.put dst ⟨.c true,.v (.one (.p key 0))⟩)
 else none
def BK(st:St)(key:Nat)(e:TypeId)(aN:List NK)(dm:List Ev)(op:cU)(rows:List Row)(a8:List dX)(dst:Option Tmp):Option (List Ev×St):=
 if st.free key 1&&decide (0<aN.length)then
   some (dm++[.bW key op],{st.bB key 1 with rows,a8:=uT ⟨key,e,aN,key,.c true,true⟩ a8}.put dst ⟨.c true,.v (.one (.s key))⟩)
 else none
def setCells(st:St)(b:iA)(cs:List ak)(dst:Option Tmp):Option (List Ev×St):=
 if bq st.has cs then some ([],(xd st {b with cells:=cs}).put dst kf)else none
def newRow(st:St)(G:BE)(key:Nat)(e:TypeId)(ks:List CK)(dm:List Ev)(op:cU)(rows:List Row)(dst:Option Tmp):Option (List Ev×St):=
 if st.free key 1&&G.all st.has then
   some (dm++[.bW key op],{st.bB key 1 with rows:=dr ⟨key,e,ks,key,true,G⟩ rows}.put dst ⟨G,.v (.one (.s key))⟩)
 else none
def sq(st:St)(l:ak)(ls:List ak)(key:Nat)(dst:Option Tmp):Option (List Ev×St):=
 match l with
 | .p id off=>match gj st id with
   |some b=>if off+ls.length<=b.cells.length then setCells st b (iJ b.cells off ls) dst else none
   |none=>none
 | .pi id off sz n x=>match gj st id with
   | some b=>match vJ x sz n b.cells off ls with
     | some cs=>if 0<n/\ls.length<=sz/\0<ls.length then(match setCells st b cs dst with
       |some (dm,bc)=>some (.aG (BE.le (.c 0) x).mk :: .aG (BE.lt x (.c (n:Int))).mk::dm,bc)
       |none=>none)else none
     |none=>none
   |none=>none
 | .ep row sz x j=>match bK st row,ls with
   | some r,[l]=>match r.ks[j]? with
     | some kj=>match nM kj l with
       |some y=>if r.own&&decide (r.g = .c true)&&decide (r.ks.length=sz)&&st.free key 1 then
       some ([.aG (BE.le (.c 0) x).mk,.aG (BE.lt x (.len r.lv)).mk,.bW key (.set r.lv x j y)],
         {st.bB key 1 with rows:=dr {r with lv:=key} (st.rows.filter fun z=>decide (z.id≠row)) }.put dst kf)else none
       |none=>none
     |none=>none
   | some r,ls=>match eL r.ks ls with
     |some es=>if r.own&&decide (r.g = .c true)&&decide (r.ks.length=sz)&&decide (j=0)&&decide (1<sz)&&st.free key 1 then
         some ([.aG (BE.le (.c 0) x).mk,.aG (BE.lt x (.len r.lv)).mk,.bW key (.zM r.lv x es)],
           {st.bB key 1 with rows:=dr {r with lv:=key} (st.rows.filter fun z=>decide (z.id≠row)) }.put dst kf)else none
     | none=>match eL ((r.ks.drop j).take ls.length) ls with
       |some es=>if r.own&&decide (r.g = .c true)&&decide (r.ks.length=sz)&&decide (j+ls.length<=sz)&&decide (0<ls.length)&&st.free key 1 then
           some ([.aG (BE.le (.c 0) x).mk,.aG (BE.lt x (.len r.lv)).mk,.bW key (.BG r.lv x j es)],
             {st.bB key 1 with rows:=dr {r with lv:=key} (st.rows.filter fun z=>decide (z.id≠row)) }.put dst kf)else none
       |none=>none
   |_,_=>none
 |_=>none
def oD(ks:List CK):Nat->Nat->List (Nat×V1)->Option (List (List (Sum IE BE)))
 |0,_,[]=>some []
 |n+1,i,(j,v)::ps=>if i=j then
     (match eL ks v.leaves,oD ks n (i+1) ps with
     |some r,some rs=>some (r::rs)
     |_,_=>none)else none
 |_,_,_=>none
def lu(P:Program)(e:TypeId):Option Nat:=
 match P.info? e with
 | some i=>match i.zero with
   |some z=>if decide (0<i.bytes)&&decide (0<i.size)&&decide (z.cells.size=i.size)then some (140737488355328/i.bytes)else none
   |none=>none
 |none=>none
def Jo(g:TypeId->Option (List NK)):List Field->Option (List NK)
 | []=>some []
 | f::fs=>match g f.type,Jo g fs with
   |some m,some r=>some (m++r)
   |_,_=>none
def NZ(P:Program):Nat->TypeId->Option (List NK)
 |0,_=>none
 | n+1,t=>match P.underlying t with
   |some (.int k)=>some [.c (.i k)]
   |some .bool=>some [.c .b]
   | some (.slice e)=>match flat P 16 e with
     |some [k]=>some [.s e k]
     |_=>none
   |some (.struct fs)=>Jo (NZ P n) fs.toList
   |some (.array len e)=>(NZ P n e).map fun m=>(List.replicate len m).flatten
   |_=>none
def nP(st:St):List NK->List ak->Option (List cc×List Nat)
 | [],[]=>some ([],[])
 | .c k::aN,l::ls=>match nM k l,nP st aN ls with
   |some x,some (xs,gs)=>some (.c x::xs,gs)
   |_,_=>none
 | .s e k::aN,.s r::ls=>match bK st r,nP st aN ls with
   |some x,some (xs,gs)=>if x.own&&decide (x.g = .c true)&&decide (x.e=e)&&decide (x.ks=[k])then some (.s x.lv::xs,r::gs)else none
   |_,_=>none
 | .s _ _::aN,.kK::ls=>match nP st aN ls with
   |some (xs,gs)=>some (.nil::xs,gs)
   |none=>none
 |_,_=>none
def lS(st:St)(aN:List NK):Nat->Nat->List (Nat×V1)->Option (List (List cc)×List Nat)
 |0,_,[]=>some ([],[])
 |n+1,i,(j,v)::ps=>if i=j then
     (match nP st aN v.leaves,lS st aN n (i+1) ps with
     |some (r,g),some (rs,gs)=>some (r::rs,g++gs)
     |_,_=>none)else none
 |_,_,_=>none
def xt:List Nat->Bool
 | []=>true
 |x::xs=>!xs.contains x&&xt xs
def kn(sz:Nat):Nat->Nat->List (Nat×V1)->Option (List ak)
 |0,_,[]=>some []
 |n+1,i,(j,v)::ps=>if i=j/\v.leaves.length=sz then(kn sz n (i+1) ps).map fun ls=>v.leaves++ls else none
 |_,_,_=>none
def abU(P:Program)(bsl:List TypeId)(st:St)(G:BE)(key:Nat)(dst:Option Tmp)(t:TypeId)(n:Nat)(parts:Array (Nat×Operand)):Option (List Ev×St):=
 match P.underlying t,im st G parts.toList with
 |some (.slice e),some ps=>if bsl.contains e then(if decide (G = .c true)&&((P.info? e).bind (·.zero)).isSome&&decide (0<P.cellsOf e)&&decide (n*P.cellsOf e<=16777216)then
     (match kn (P.cellsOf e) n 0 ps with
     |some ls=>if st.free key 1&&bq st.has ls then some ([],{st.bB key 1 with aX:=mh ⟨key,e,ls⟩ st.aX}.put dst ⟨.c true,.v (.one (.bs key n (P.cellsOf e)))⟩)else none
     |none=>none)else none)else match flat P 16 e with
   |some ks=>if decide (0<ks.length)&&((P.info? e).bind (·.zero)).isSome&&decide (n*ks.length<=16777216)&&decide (P.cellsOf e=ks.length)then
       (match oD ks n 0 ps with
       |some rows=>newRow st G key e ks [] (.lit rows) st.rows dst
       |none=>none)else none
   | none=>match NZ P 16 e with
     |some aN=>if decide (G = .c true)&&((P.info? e).bind (·.zero)).isSome&&decide (n*aN.length<=16777216)&&decide (P.cellsOf e=aN.length)then
         (match lS st aN n 0 ps with
         |some (rows,gone)=>if xt gone then BK st key e aN [] (.BL rows) (st.rows.filter fun r=>!gone.contains r.id) st.a8 dst else none
         |none=>none)else none
     |none=>none
 |_,_=>none
def ry(G:BE):List BE->List Ev
 | []=>[]
 | n::ns=>match BE.under G n with
   |.c true=>ry G ns
   |m=>.aG m::ry G ns
def fM(lv:Nat)(i:IE)(key:Nat):Nat->List NK->List ak
 |_,[]=>[]
 |j,.c k::aN=>qv lv i j k::fM lv i key (j+1) aN
 |j,.s _ _::aN=>.s (key+j)::fM lv i key (j+1) aN
def FA(lv:Nat)(i:IE)(key:Nat)(all:List NK):Nat->List NK->List Ev
 |_,[]=>[]
 |j,.c _::aN=>FA lv i key all (j+1) aN
 |j,.s _ _::aN=>.bW (key+j) (.sub lv i all j)::FA lv i key all (j+1) aN
def ki(G:BE)(key:Nat):Nat->List NK->List Row
 |_,[]=>[]
 |j,.c _::aN=>ki G key (j+1) aN
 |j,.s e k::aN=>⟨key+j,e,[k],key+j,false,G⟩::ki G key (j+1) aN
def WA(P:Program)(st:St)(G:BE)(key:Nat)(dst:Option Tmp)(t:TypeId)(n:dX)(i:IE)(j:Nat):Option (List Ev×St):=
 if(P.underlying t).isSome&&decide (0<n.aN.length)&&G.iW n.g&&G.all st.has&&st.free key n.aN.length&&i.all st.has&&st.has n.lv then
   (if gH P t then(if j=0/\P.cellsOf t=n.aN.length then
       some (ry G [(BE.le (.c 0) i).mk,(BE.lt i (.len n.lv)).mk]++FA n.lv i key n.aN 0 n.aN,
         {st.bB key n.aN.length with rows:=cZ (ki G key 0 n.aN) st.rows}.put dst ⟨G,.v (.agg (fM n.lv i key 0 n.aN))⟩)else none)
   else(match(fM n.lv i key 0 n.aN)[j]? with
     |some l=>if 0<P.cellsOf t then some (ry G [(BE.le (.c 0) i).mk,(BE.lt i (.len n.lv)).mk]++FA n.lv i key n.aN 0 n.aN,
         {st.bB key n.aN.length with rows:=cZ (ki G key 0 n.aN) st.rows}.put dst ⟨G,.v (.one l)⟩)else none
     |none=>none))
 else none
def Jp(P:Program)(st:St)(G:BE)(key:Nat)(dst:Option Tmp)(t:TypeId)(x:Operand):Option (List Ev×St):=
 match bA st G x with
 | some (.ep row sz i j)=>match bK st row with
   |some _=>none
   | none=>match eT st row with
     |some n=>if sz=n.aN.length then WA P st G key dst t n i j else none
     |none=>none
 |_=>none
def zeroOf:CK->ak
 |.i k=>.i k (.c 0)
 |.b=>.b (.c false)
 |.f=>.fl (.c 0)
def NW(P:Program)(st:St)(key:Nat)(dst:Option Tmp)(op:Op):Option (List Ev×St):=
 match op with
 | .alloc e=>match pJ P e with
   |some z=>pK st key e z.leaves dst
   |none=>none
 | .box e x=>match kS st (.c true) x with
   |some v=>pK st key e v.leaves dst
   |none=>none
 | .store t a x=>match bA st (.c true) a,kS st (.c true) x with
   |some l,some v=>if v.leaves.length=P.cellsOf t/\0<P.cellsOf t then sq st l v.leaves key dst else none
   |_,_=>none
 | .makeSlice t n c=>match P.underlying t,bA st (.c true) n,bA st (.c true) c with
   | some (.slice e),some (.i _ x),some (.i _ y)=>match lu P e,flat P 16 e,pJ P e with
     |some room,some ks,some z=>if decide (0<ks.length)&&decide (P.cellsOf e=ks.length)&&decide (z.leaves=ks.map zeroOf)then
         (if x=y then newRow st (.c true) key e ks [.aG (BE.le (.c 0) x).mk,.aG (BE.le x (.c (room:Int))).mk] (.rep x (List.replicate ks.length 0)) st.rows dst
         else newRow st (.c true) key e ks [.aG (BE.le (.c 0) x).mk,.aG (BE.le x y).mk,.aG (BE.le y (.c (room:Int))).mk] (.rep x (List.replicate ks.length 0)) st.rows dst)else none
     |_,_,_=>none
   |_,_,_=>none
 | .slice t x none (some h) none=>match P.underlying t,bA st (.c true) x,bA st (.c true) h with
   | some (.slice e),some (.s a),some (.i _ n)=>match bK st a with
     |some ra=>if ra.own&&decide (ra.g = .c true)&&decide (ra.e=e)&&decide (P.cellsOf e=ra.ks.length)then
         newRow st (.c true) key e ra.ks [.aG (BE.le (.c 0) n).mk,.aG (BE.le n (.len ra.lv)).mk] (.take ra.lv n) (st.rows.filter fun r=>decide (r.id≠a)) dst else none
     | none=>match eT st a with
       |some ra=>if ra.own&&decide (ra.e=e)&&decide (P.cellsOf e=ra.aN.length)then
           BK st key e ra.aN [.aG (BE.le (.c 0) n).mk,.aG (BE.le n (.len ra.lv)).mk] (.take ra.lv n) st.rows (st.a8.filter fun r=>decide (r.id≠a)) dst else none
       |none=>none
   |_,_,_=>none
 | .call {callee:=.builtin .append,args,argTypes}=>match args.toList,argTypes.toList with
   | [x,y],[t,t']=>if t=t' then(match P.underlying t with
     | some (.slice e)=>match lu P e,bA st (.c true) x,bA st (.c true) y with
       | some room,some .kK,some (.s b)=>match bK st b with
         |some rb=>if decide (rb.g = .c true)&&decide (rb.e=e)&&decide (P.cellsOf e=rb.ks.length)then
             newRow st (.c true) key e rb.ks [.aG (BE.le (.len rb.lv) (.c (room:Int))).mk] (.cp rb.lv) st.rows dst else none
         | none=>match eT st b with
           |some rb=>if rb.own&&decide (rb.e=e)&&decide (P.cellsOf e=rb.aN.length)then
               BK st key e rb.aN [.aG (BE.le (.len rb.lv) (.c (room:Int))).mk] (.cp rb.lv) st.rows st.a8 dst else none
           |none=>none
       | some room,some (.cs a),some (.s b)=>match bK st a,bK st b with
         |some ra,some rb=>if decide (ra.g = .c true)&&decide (rb.g = .c true)&&decide (ra.e=e)&&decide (rb.e=e)&&decide (ra.ks=rb.ks)&&decide (P.cellsOf e=ra.ks.length)then
             newRow st (.c true) key e ra.ks [.aG (BE.lt (.c 0) (.len rb.lv)).mk,.aG (BE.le (IE.add (.len ra.lv) (.len rb.lv)).mk (.c (room:Int))).mk] (.app ra.lv rb.lv) st.rows dst else none
         |_,_=>none
       | some room,some (.s a),some (.s b)=>match bK st a,bK st b with
         |some ra,some rb=>if ra.own&&decide (ra.g = .c true)&&decide (rb.g = .c true)&&decide (ra.e=e)&&decide (rb.e=e)&&decide (ra.ks=rb.ks)&&decide (a≠b)&&decide (P.cellsOf e=ra.ks.length)then
             newRow st (.c true) key e ra.ks [.aG (BE.le (IE.add (.len ra.lv) (.len rb.lv)).mk (.c (room:Int))).mk] (.app ra.lv rb.lv) (st.rows.filter fun r=>decide (r.id≠a)) dst else none
         | none,none=>match eT st a,eT st b with
           |some ra,some rb=>if ra.own&&rb.own&&decide (ra.e=e)&&decide (rb.e=e)&&decide (ra.aN=rb.aN)&&decide (a≠b)&&decide (P.cellsOf e=ra.aN.length)then
               BK st key e ra.aN [.aG (BE.le (IE.add (.len ra.lv) (.len rb.lv)).mk (.c (room:Int))).mk] (.app ra.lv rb.lv) st.rows (st.a8.filter fun r=>decide (r.id≠a)) dst else none
           |_,_=>none
         |_,_=>none
       |_,_,_=>none
     |_=>none)else none
   |_,_=>none
 | .call {callee:=.builtin .copy,args,argTypes}=>match args.toList,argTypes.toList with
   | [x,y],[t,t']=>if t=t' then(match P.underlying t,bA st (.c true) x,bA st (.c true) y with
     | some (.slice e),some (.s a),some (.s b)=>match bK st a,bK st b with
       |some ra,some rb=>if ra.own&&decide (ra.g = .c true)&&decide (rb.g = .c true)&&decide (ra.ks=rb.ks)&&decide (a≠b)&&decide (P.cellsOf e=ra.ks.length)&&(P.info? e).isSome&&st.free key 1 then
           some ([.bW key (.Nc ra.lv rb.lv)],{st.bB key 1 with rows:=dr {ra with lv:=key} (st.rows.filter fun r=>decide (r.id≠a)) }.put dst ⟨.c true,.v (.one (.i .i64 (.min (.len ra.lv) (.len rb.lv))))⟩)else none
       |_,_=>none
     |_,_,_=>none)else none
   |_,_=>none
 | .call {callee:=.builtin .clear,args,argTypes}=>match args.toList,argTypes.toList with
   | [x],[t]=>match P.underlying t,bA st (.c true) x with
     | some (.slice e),some (.s a)=>match bK st a,pJ P e with
       |some ra,some z=>if ra.own&&decide (ra.g = .c true)&&decide (P.cellsOf e=ra.ks.length)&&(P.info? e).isSome&&decide (z.leaves=ra.ks.map zeroOf)&&st.free key 1 then
           some ([.bW key (.rep (.len ra.lv) (List.replicate ra.ks.length 0))],{st.bB key 1 with rows:=dr {ra with lv:=key} (st.rows.filter fun r=>decide (r.id≠a)) }.put dst ⟨.c true,.Hc []⟩)else none
       |_,_=>none
     |_,_=>none
   |_,_=>none
 | .convert src La x=>match P.underlying src,P.underlying La,bA st (.c true) x with
   | some .string,some (.slice e),some (.str bs)=>match P.underlying e with
     |some (.int .u8)=>if(P.info? e).isSome&&decide (P.cellsOf e=1)&&decide (bs.length<=4096)&&st.free key 1 then some ([.bW key (.lit (bs.map fun b=>[Sum.inl (IE.c (b.toNat:Int))]))],{st.bB key 1 with rows:=dr ⟨key,e,[.i .u8],key,false,.c true⟩ st.rows}.put dst ⟨.c true,.v (.one (.kb key bs))⟩)else none
     |_=>none
   |_,_,_=>none
 |_=>none
def CT.wM:CT->Bool
 |.n _ _=>true
 |_=>false
def CT.isS:CT->Bool
 |.s _ _=>true
 |_=>false
def qG(cs:List CT):Bool:=!cs.any CT.wM||(!cs.any CT.isS&&decide (cs.countP CT.wM<=1))
def width(vs:List VT):Nat:=(bI vs).length
def bF(vs:List V1):List ak:=vs.flatMap V1.leaves
def cL(ls:List ak):List Nat:=ls.filterMap fun| .s r=>some r|_=>none
def iB:List VT->Bool
 | []=>true
 |.ptr _ _::_=>false
 |.fn _ _::_=>false
 |.one (.n _ _)::_=>false
 |.one _::ts=>iB ts
 |.agg cs::ts=>cs.all (fun| .n _ _=>false|_=>true)&&iB ts
def eZ:List VT->Bool
 | []=>true
 |.ptr _ _::_=>false
 |.fn _ _::_=>false
 |_::ts=>eZ ts
def Yc(st:St)(key:Nat)(dst:Option Tmp)(f:FuncId)(sg:bR)(vs:List V1):Option (List Ev×St):=
 match nQ st (.c true) sg.args vs with
 | some ds=>
   let gone:=cL ((bF vs).take sg.cons)
   if st.free key (width sg.res)&&iB sg.args&&iB sg.res&&xt gone&&gone.all (fun r=>match bK st r with|some x=>x.own&&decide (x.g = .c true)|none=>false)then
     some ([.call f (.c true) ds sg.res key],{st.bB key (width sg.res)with rows:=cZ (cd (.c true) key sg.res).2 (st.rows.filter fun r=>!gone.contains r.id) }.put dst ⟨.c true,pQ (cd (.c true) key sg.res).1⟩)else none
 |none=>none
def Ll(aM:kp)(st:St)(G:BE)(key:Nat)(dst:Option Tmp)(f:FuncId)(vs:List V1):Option (List Ev×St):=
 match aM.sig f with
 | some sg=>if sg.cons≠0 then(if G = .c true then Yc st key dst f sg vs else none)else match nQ st G sg.args vs with
   |some ds=>if st.free key (width sg.res)&&qG (bI sg.res)&&G.all st.has then
       some ([.call f G ds sg.res key],{st.bB key (width sg.res)with rows:=cZ (cd G key sg.res).2 st.rows,a8:=rA (ei (decide (G=BE.c true)) G key (bI sg.res)) st.a8}.put dst ⟨G,pQ (cd G key sg.res).1⟩)else none
   |none=>none
 |none=>none
def cop(aM:kp)(st:St)(G:BE)(key:Nat)(dst:Option Tmp)(f:FuncId)(args:List Operand):Option (List Ev×St):=
 match ly st G args with
 |some vs=>Ll aM st G key dst f vs
 |none=>none
def T0(agg:Bool)(ls:List dp):V1:=if agg then .agg (ls.map dp.up)else .one ((ls.map dp.up).headD .kK)
def Yd(aM:kp)(st:St)(G:BE)(key:Nat)(dst:Option Tmp)(x:Operand)(args:List Operand):Option (List Ev×St):=
 match bA st G x,ly st G args with
 |some (.fn g dx),some vs=>Ll aM st G key dst g (vs++dx.map fun c=>.one (qx c))
 |some (.f g),some vs=>Ll aM st G key dst g vs
 |some (.bf g agg ls),some vs=>if agg||decide (ls.length=1)then Ll aM st G key dst g (T0 agg ls::vs)else none
 |_,_=>none
def guardOf(ops:Array Oper)(st:St)(o:Oper):Option BE:=
 match o.guard with
 |none=>some (.c true)
 | some (j,want)=>match(ops[j]?).bind (·.dst)with
   | some t=>match st.tmps[t]? with
     |some (some ⟨g,.v (.one (.b p))⟩)=>some (BE.and g (if want then p else(BE.not p).mk)).mk
     |_=>none
   |none=>none
def St.forget(st:St)(dst:Option Tmp):St:=
 match dst with
 |some d=>{st with tmps:=st.tmps.set d none}
 |none=>st
def FI(P:Program)(aM:kp)(st:St)(G:BE)(dst:Option Tmp)(t:TypeId)(g:Nat):Option (List Ev×St):=
 match aM.yd.find? (fun p=>p.1==g)with
 | some p=>match rV P t (p.2.map fun n=>ak.i .i64 (.c n)) 0 with
   |some v=>(st.Lk dst ⟨G,.v v⟩).map fun bc=>([],bc)
   |none=>none
 |none=>none
def sF(P:Program)(aM:kp)(ops:Array Oper)(st:St)(key:Nat)(o:Oper):Option (List Ev×St):=
 match guardOf ops st o with
 |none=>none
 |some (.c false)=>some ([],st.put o.dst kf)
 | some G=>match XZ P aM.gB st G o.op with
   | some (ns,sv)=>match st.Lk o.dst ⟨G,sv⟩with
     |some bc=>some (ry G ns,bc)
     |none=>none
   | none=>match o.op with
     |.assign (.const _)=>some ([],st.forget o.dst)
     |.call {callee:=.value (.func f),args,..}=>cop aM st G key o.dst f args.toList
     |.call {callee:=.value (.tmp t),args,..}=>Yd aM st G key o.dst (.tmp t) args.toList
     |.buildSlice t n parts=>abU P aM.bsl st G key o.dst t n parts
     |.load t (.global g)=>FI P aM st G o.dst t g
     |.load t x=>Jp P st G key o.dst t x
     |op=>if G = .c true then NW P st key o.dst op else none
def gW:Nat:=512
def Jq:Nat:=16
inductive Spec where
 |inl (g:FuncId) (vs:List V1)
 |val (x:V1)
 |aG (ok:BE) (e:IE)
 |Lm (g:FuncId) (vs:List V1)
def idxOf(bs:List UInt8)(b:Int):Int:=match(List.range bs.length).find? fun i=>decide (((bs[i]?).map fun x=>(x.toNat:Int))=some b)with
 |some i=>(i:Int)
 |none=>-1
def vO(dx:List (Bool×Nat)):List V1:=dx.map fun c=>.one (qx c)
def xu(aM:kp)(st:St)(G:BE)(op:Op):Option Spec:=
 match op with
 | .call {callee:=.value (.func f),args,..}=>match ly st G args.toList with
   | some vs=>if dF st.has vs then
     (if aM.aG=some f then(match vs with
       | [.one (.b ok),.one (.i .i64 e)]=>some (.aG ok e)
       |_=>none)
     else if aM.xr=some f then(match vs with
       | [.one (.fn g dx)]=>some (.Lm g (vO dx))
       |_=>none)
     else if aM.yY=some f then(match vs with
       | [.one (.str bs),.one (.i .u8 (.c b))]=>if 0<=b/\b<256 then some (.val (.one (.i .i64 (.c (idxOf bs b)))))else none
       |_=>none)
     else if aM.inl.contains f then some (.inl f vs)else none)else none
   |none=>none
 | .call {callee:=.value (.tmp t),args,..}=>match bA st G (.tmp t),ly st G args.toList with
   |some (.fn g dx),some vs=>if aM.inl.contains g&&dF st.has (vs++vO dx)then some (.inl g (vs++vO dx))else none
   |some (.f g),some vs=>if aM.inl.contains g&&dF st.has vs then some (.inl g vs)else none
   |some (.bf g agg ls),some vs=>if aM.inl.contains g&&dF st.has (T0 agg ls::vs)&&(agg||decide (ls.length=1))then some (.inl g (T0 agg ls::vs))else none
   |_,_=>none
 |_=>none
def aT.know(p:BE)(v:Bool)(s:aT):aT:=
 match s.sv with
 |.v (.one (.b x))=>if x=p then {s with sv:=.v (.one (.b (.c v))) }else if x=(BE.not p).mk then {s with sv:=.v (.one (.b (.c !v))) }else s
 |_=>s
def St.know(st:St)(p:BE)(v:Bool):St:={st with tmps:=st.tmps.map fun s=>s.map (aT.know p v) }
def nS(h:Option St)(st:St):Bool:=
 match h with
 |none=>true
 |some hs=>hs.aX.all (fun b=>decide (gj st b.id=some b))&&hs.rows.all (fun r=>decide (bK st r.id=some r))&&hs.a8.all (fun r=>st.a8.contains r)
def WB(h:Option St)(st:St)(e:IE):au:=if nS h st&&e.all st.has then .fail e else .stuck ("given up" ++ (match h with
 |some hs=>String.join (hs.aX.filterMap fun b=>if gj st b.id=some b then none else some (" blk " ++ toString b.id))++String.join (hs.rows.filterMap fun b=>if bK st b.id=some b then none else some (" row " ++ toString b.id))
 |none=> ""))
def uX(st bc:St)(dst:Option Tmp)(sv:SV):St:={bc with tmps:=(st.put dst ⟨.c true,sv⟩).tmps}
def qH(fn:Func)(vs:List V1)(st:St):St:={st with tmps:=vs.map (fun v=>some ⟨.c true,.v v⟩)++List.replicate (fn.ntmps-vs.length) none}
def T3(st:St):St:={st with next:=st.next+gW,o0:=[] }
def abV(P:Program)(st:St):ResultVar->Option V1
 |.tmp t=>kS st (.c true) (.tmp t)
 | .cell a t=>match bA st (.c true) (.tmp a)with
   |some (.p id off)=>(Cl P st (.c true) t (.p id off)).map fun r=>r.2
   |_=>none
def sG(P:Program)(st:St):List ResultVar->Option (List V1)
 | []=>some []
 | r::rs=>match abV P st r,sG P st rs with
   |some v,some vs=>some (v::vs)
   |_,_=>none
def vP(P:Program)(ck:St)(W:List Nat)(st:St)(G:BE)(op:Op):Bool:=
 match op with
 | .load _ x=>match bA st G x with
   |some (.p id _)=>!W.contains id&&ck.aX.any (fun b=>b.id==id)
   |some (.pi id _ _ _ _)=>!W.contains id&&ck.aX.any (fun b=>b.id==id)
   |some (.ep row _ _ _)=>!W.contains row&&decide (bK st row=bK ck row)
   |_=>false
 |_=>true
abbrev Ye:=St->Nat->Oper->Option (List Ev×St)
def written(Bu:Ye)(sd base:Nat):Nat->List Oper->St->Option (List (Nat×Nat))
 |_,[],_=>some []
 | i,o::rest,st=>match Bu st (base+i*sd) o with
   | some (_,bc)=>match written Bu sd base (i+1) rest bc with
     | some W=>match o.op with
       | .store _ a _=>match bA st (.c true) a with
         |some (.p id _)=>some ((i,id)::W)
         |some (.pi id _ _ _ _)=>some ((i,id)::W)
         |some (.ep row _ _ _)=>some ((i,row)::W)
         |_=>none
       | .call {callee:=.builtin .append,args,..}=>match args.toList with
         | x::_=>match bA st (.c true) x with
           |some (.s row)=>some ((i,row)::W)
           |some .kK=>some W
           |some (.cs _)=>some W
           |_=>none
         | []=>none
       | .slice _ x _ _ _=>match bA st (.c true) x with
         |some (.s row)=>some ((i,row)::W)
         |some _=>some W
         |_=>none
       |.call {callee:=.builtin .copy,..}=>none
       |.call {callee:=.builtin .clear,..}=>none
       |_=>some W
     |none=>none
   |none=>none
def vQ(W:List Nat)(st:St):ak->Bool
 |.p id _=>W.contains id&&(gj st id).isSome
 |.pi id _ _ _ _=>W.contains id&&(gj st id).isSome
 | .ep row _ _ _=>W.contains row&&(match bK st row with
   |some r=>r.own&&decide (r.g = .c true)
   |none=>false)
 | .s row=>W.contains row&&(match bK st row with
   |some r=>r.own&&decide (r.g = .c true)
   | none=>match eT st row with
     |some r=>r.own
     |none=>false)
 |_=>true
def zX(W:List Nat)(st:St)(op:Op):Bool:=
 match op with
 | .store _ a _=>match bA st (.c true) a with
   |some l=>vQ W st l
   |none=>true
 | .call {callee:=.builtin .append,args,..}=>match args.toList with
   | x::_=>match bA st (.c true) x with
     |some l=>vQ W st l
     |none=>true
   | []=>true
 |.call {callee:=.builtin .copy,..}=>false
 |.call {callee:=.builtin .clear,..}=>false
 |_=>true
def keeps(ck:St)(W:List Nat)(st:St):Bool:=
 ck.aX.all (fun b=>W.contains b.id||decide (gj st b.id=some b))&&ck.rows.all (fun r=>W.contains r.id||decide (bK st r.id=some r))
def jd(p:Nat->Bool):Sum IE BE->Bool
 |.inl e=>e.all p
 |.inr b=>b.all p
def cc.all(p:Nat->Bool):cc->Bool
 |.c x=>jd p x
 |.s k=>p k
 |.nil=>true
def cU.all(p:Nat->Bool):cU->Bool
 |.lit rows=>rows.all fun r=>r.all (jd p)
 |.app a b=>p a&&p b
 |.set a i _ x=>p a&&(i.all p&&jd p x)
 |.zM a i xs=>p a&&(i.all p&&xs.all (jd p))
 |.BG a i _ xs=>p a&&(i.all p&&xs.all (jd p))
 |.take a n=>p a&&n.all p
 |.rep n _=>n.all p
 |.cp a=>p a
 |.sub a i _ _=>p a&&i.all p
 |.Nc a b=>p a&&p b
 |.BL rows=>rows.all fun r=>r.all (cc.all p)
def DE.all(p:Nat->Bool):DE->Bool
 |.i e=>e.all p
 |.b e=>e.all p
 |.l k=>p k
 |.nil=>true
 |.rows es=>es.all (IE.all p)
 |.uV xs=>xs.all (jd p)
def fp(a b:Nat):Nat:=(a*1000003+b*8191+12345)%4294967291
def IE.key:IE->Nat
 |.v k=>fp 1 k
 |.c n=>fp 2 (if n<0 then 2*n.natAbs+1 else 2*n.natAbs)
 |.add a b=>fp 3 (fp a.key b.key)
 |.sub a b=>fp 4 (fp a.key b.key)
 |.mul a b=>fp 5 (fp a.key b.key)
 |.tdiv a b=>fp 6 (fp a.key b.key)
 |.tmod a b=>fp 7 (fp a.key b.key)
 |.ediv a n=>fp 8 (fp a.key n)
 |.emod a n=>fp 9 (fp a.key n)
 |.shl a b=>fp 10 (fp a.key b.key)
 |.shr a b=>fp 11 (fp a.key b.key)
 |.wrap _ a=>fp 12 a.key
 |.max a b=>fp 13 (fp a.key b.key)
 |.min a b=>fp 14 (fp a.key b.key)
 |.bits _ _ a b=>fp 15 (fp a.key b.key)
 |.len k=>fp 16 k
 |.get k i j=>fp 17 (fp (fp k j) i.key)
 |.kZ i n a b=>fp 18 (fp (fp i.key n) (fp a.key b.key))
def BE.key:BE->Nat
 |.v k=>fp 21 k
 |.c x=>if x then 22 else 23
 |.lt a b=>fp 24 (fp a.key b.key)
 |.le a b=>fp 25 (fp a.key b.key)
 |.eq a b=>fp 26 (fp a.key b.key)
 |.not a=>fp 27 a.key
 |.and a b=>fp 28 (fp a.key b.key)
 |.or a b=>fp 29 (fp a.key b.key)
 |.iff a b=>fp 30 (fp a.key b.key)
 |.tu a=>fp 31 a.key
def outside(base n:Nat):Nat->Bool:=fun k=>decide (k<base)||decide (base+n<=k)
def other(id:Nat):Nat->Bool:=fun k=>decide (k≠id)
def indep(sig:FuncId->Option bR)(e e2:Ev):Bool:=
 match e2 with
 | .bW id op=>(match e with
   |.call _ g args res base=>op.all (outside base (bI res).length)&&(outside base (bI res).length id&&(g.all (other id)&&args.all (DE.all (other id))))
   |.aG p=>p.all (other id)
   |.bW vA Ts=>decide (id≠vA)&&(op.all (other vA)&&Ts.all (other id))
   |.du p e=>p.all (other id)&&e.all (other id))
 | .aG q=>(match e with
   |.aG _=>true
   |.call _ _ _ res base=>q.all (outside base (bI res).length)
   |.du _ _=>true
   |.bW id _=>q.all (other id))
 | .call f' g' zY rO iL=>(match e with
   |.call f g args res base=>(decide (iL+(bI rO).length<=base)||decide (base+(bI res).length<=iL))&&(decide ((sig f').map (·.res)=some rO)&&(g'.all (outside base (bI res).length)&&(zY.all (DE.all (outside base (bI res).length))&&(g.all (outside iL (bI rO).length)&&args.all (DE.all (outside iL (bI rO).length))))))
   |.du p e=>decide ((sig f').map (·.res)=some rO)&&(p.all (outside iL (bI rO).length)&&e.all (outside iL (bI rO).length))
   |_=>false)
 | .du p' e'=>(match e with
   |.du p e=>decide (e=e')
   |_=>false)
def Ev.Ln:Ev->Nat×Nat
 |.aG p=>(0,p.key)
 |.bW id _=>(1,id)
 |.call _ _ _ _ b=>(2,b)
 |.du p _=>(3,p.key)
def Yf(a b:Nat×Nat):Bool:=decide (a.1<b.1)||(decide (a.1=b.1)&&decide (a.2<b.2))
def CA(sig:FuncId->Option bR):List Ev->Nat->List Ev->Nat->Nat×Nat->Nat
 |_,_,[],b,_=>b
 |pre,i,e::es,b,r=>if Yf e.Ln r&&pre.all (fun e1=>indep sig e1 e)then CA sig (e::pre) (i+1) es i e.Ln else CA sig (e::pre) (i+1) es b r
def Jr(sig:FuncId->Option bR):Nat->List Ev->List Ev
 |0,es=>es
 |_+1,[]=>[]
 | n+1,e::es=>match(e::es)[CA sig [e] 1 es 0 e.Ln]? with
   |some x=>if((e::es).take (CA sig [e] 1 es 0 e.Ln)).all (fun e1=>indep sig e1 x)then x::Jr sig n ((e::es).eraseIdx (CA sig [e] 1 es 0 e.Ln))else e::es
   |none=>e::es
def zZ(sig:FuncId->Option bR)(es:List Ev):List Ev:=Jr sig es.length es
abbrev uY:=List (Nat×Nat×St×(List Ev×St))
def FJ(n m:Nat)(st:St):uY->Option (List Ev×St)
 | []=>none
 |(n',m',kq,r)::T=>if(Nat.beq m' m&&Nat.beq n' n)&&decide (kq=st)then some r else FJ n m st T
def tb(m i:Nat):Bool:=Nat.beq (Nat.land (Nat.shiftRight m i) 1) 1
def qI(m i:Nat):Nat:=Nat.lor m (Nat.pow 2 i)
def bitsOf(p:Nat->Bool):List Nat->Nat
 | []=>0
 |j::r=>bif p j then Nat.lor (Nat.pow 2 j) (bitsOf p r)else bitsOf p r
structure RO where
 i:Nat
 o:Oper
 dep:Nat
 bad:Nat
def DT(ops:Array Oper)(i:Nat)(o:Oper):RO:=⟨i,o,bitsOf (fun j=>o.after.toList.any fun e=>Region.binds .any e&&Nat.beq e.on j) (List.range ops.size),
 bitsOf (fun j=>!(Nat.beq j i) && !(match ops[j]? with
   |some oj=>oj.after.toList.any (fun e=>Region.binds .any e&&Nat.beq e.on i)||o.apart ops oj
   |none=>true)) (List.range ops.size)⟩
def kt(ops:Array Oper):List RO:=(List.range ops.size).filterMap fun i=>(ops[i]?).map (DT ops i)
def pf(ops:Array Oper):Bool:=ops.toList.all fun o=>o.after.toList.all fun e=>!Region.binds .any e||Nat.blt e.on ops.size
def RO.ready(m:Nat)(r:RO):Bool:=!tb m r.i&&Nat.beq (Nat.land r.dep m) r.dep
def RO.free(m:Nat)(r:RO):Bool:=Nat.beq (Nat.land r.bad m) r.bad
def ux(acc:List Nat)(es:List Edge):Nat:=es.foldl (fun m e=>if Region.binds .any e&&Nat.blt e.on acc.length then Nat.lor (qI m e.on) (acc.getD e.on 0)else m) 0
def Lo(ops:List Oper):List Nat:=ops.foldl (fun acc o=>acc++[ux acc o.after.toList]) []
structure WQ where
 ws:List (Nat×Nat×Nat)
 al:Option (List Nat)
def WQ.wf(q:WQ)(m:Nat):List Nat:=match q.al with
 |some W=>W
 |none=>(q.ws.filter fun p=>tb m p.1).map fun p=>p.2.1
def WQ.wt(q:WQ)(i:Nat):List Nat:=match q.al with
 |some W=>W
 |none=>(q.ws.filter fun p=>!tb p.2.2 i).map fun p=>p.2.1
def WQ.ok(q:WQ)(i:Nat):Bool:=match q.al with
 |some _=>true
 |none=>q.ws.all fun p=>!Nat.beq p.1 i
def N1(ops:Array Oper)(W:List (Nat×Nat)):WQ:=⟨(W.filter fun p=>Nat.blt p.1 ops.size).map fun p=>(p.1,p.2,(Lo ops.toList).getD p.1 0),none⟩
def mT(P:Program)(aM:kp)(ops:Array Oper)(ck:St)(q:WQ)(m:Nat)(st:St):List RO->Option (RO×List Ev×St)
 | []=>none
 |r::rs=>if r.free m&&q.ok r.i then(match guardOf ops st r.o with
     |none=>mT P aM ops ck q m st rs
     | some G=>if vP P ck (q.wt r.i) st G r.o.op then(match XZ P aM.gB st G r.o.op with
       | some (ns,sv)=>match st.Lk r.o.dst ⟨G,sv⟩with
         |some bc=>some (r,ry G ns,bc)
         |none=>none
       |none=>mT P aM ops ck q m st rs)else mT P aM ops ck q m st rs)else mT P aM ops ck q m st rs
def z6(aM:kp)(Bu:Ye)(ck:St)(wf:Nat->List Nat)(sd base:Nat)(st:St)(next:Nat->St->uY->Option ((List Ev×St)×uY))(r:RO)(T:uY):Option ((List Ev×St)×uY):=
 if zX (wf r.i) st r.o.op&&keeps ck (wf r.i) st then(match Bu st (base+r.i*sd) r.o with
   | some (dm,bc)=>match next r.i bc T with
     |some ((yR,KY),T')=>some ((zZ aM.sig (dm++yR),KY),T')
     |none=>none
   |none=>none)else none
def FK(go:RO->uY->Option ((List Ev×St)×uY))(x:List Ev×St):List RO->uY->Option uY
 | [],T=>some T
 | i::is,T=>match go i T with
   |some (y,T')=>if y=x then FK go x is T' else none
   |none=>none
def explore(P:Program)(aM:kp)(Bu:Ye)(ops:Array Oper)(kH:List RO)(fin:Option Nat)(ck:St)(q:WQ)(sd base:Nat):Nat->Nat->St->uY->Option ((List Ev×St)×uY)
 | 0,m,st,T=>match fin with
   | none=>(match kH.filter (RO.ready m)with
     | []=>some (([],st),T)
     |_::_=>none)
   |some l=>if Nat.beq m l then some (([],st),T)else none
 | n+1,m,st,T=>
   match kH.filter (RO.ready m)with
   | []=>(match fin with
     |none=>some (([],st),T)
     |some _=>none)
   | r::rs=>match mT P aM ops ck q m st (r::rs)with
     | some (r',dm,bc)=>match explore P aM Bu ops kH fin ck q sd base n (qI m r'.i) bc T with
       |some ((yR,KY),T')=>some ((dm++yR,KY),T')
       |none=>none
     | none=>match FJ (n+1) m st T with
       |some x=>some (x,T)
       | none=>match z6 aM Bu ck (fun i=>q.wf (qI m i)) sd base st (fun i bc T=>explore P aM Bu ops kH fin ck q sd base n (qI m i) bc T) r T with
         | some (x,T')=>match FK (z6 aM Bu ck (fun i=>q.wf (qI m i)) sd base st (fun i bc T=>explore P aM Bu ops kH fin ck q sd base n (qI m i) bc T)) x rs T' with
           |some T''=>some (x,(n+1,m,st,x)::T'')
           |none=>none
         |none=>none
def noW(ck st:St):Op->Bool
 | .store _ a _=>match bA st (.c true) a with
   |some (.p id _)=>!(ck.has id)&&(gj st id).isSome
   |_=>false
 |.call {callee:=.builtin .append,..}=>false
 |.call {callee:=.builtin .copy,..}=>false
 |.call {callee:=.builtin .clear,..}=>false
 |_=>true
def N2(BN key:Nat)(st:St):Nat:=st.o0.foldl (fun m d=>if decide (key<=d.1)&&decide (d.1<BN)then max m d.2 else m) key
abbrev sH:=St->Nat->Option Tmp->Spec->Option (List Ev×St)
def Js(P:Program)(aM:kp)(rec:sH)(ops:Array Oper)(st:St)(key:Nat)(o:Oper):Option (List Ev×St):=
 match guardOf ops st o with
 | some (.c true)=>match xu aM st (.c true) o.op with
   |some sp=>rec st key o.dst sp
   |none=>sF P aM ops st key o
 |_=>sF P aM ops st key o
def T4(P:Program)(aM:kp)(rec:sH)(ops:Array Oper)(ck:St):Ye:=fun st key o=>if noW ck st o.op then Js P aM rec ops st key o else none
def z7(P:Program)(aM:kp)(rec:sH)(ops:Array Oper)(BN:Nat)(ck:St):List Oper->Nat->St->Option (List Ev×St×Nat)
 | [],key,st=>some ([],st,key)
 | o::rest,key,st=>if noW ck st o.op then(match Js P aM rec ops st key o with
   | some (dm,kq)=>match z7 P aM rec ops BN ck rest (N2 BN key kq) kq with
     |some (yR,uZ,uc)=>some (dm++yR,uZ,uc)
     |none=>none
   |none=>none)else none
def DU(P:Program)(aM:kp)(rec:sH)(BN:Nat)(ck:St):Code->Nat->St->Option (List Ev×St×Nat)
 |.skip,key,st=>some ([],st,key)
 | .seq a b,key,st=>match DU P aM rec BN ck a key st with
   | some (dm,kq,Lq)=>match DU P aM rec BN ck b Lq kq with
     |some (yR,uZ,FL)=>some (dm++yR,uZ,FL)
     |none=>none
   |none=>none
 |.region _ ops false,key,st=>z7 P aM rec ops BN ck ops.toList key st
 | .region _ ops true,key,st=>if Region.noSelect ops&&P.follows .mixedOrders&&pf ops then(match written (T4 P aM rec ops ck) Jq key 0 ops.toList st with
   | some W=>match explore P aM (T4 P aM rec ops ck) ops (kt ops) none st (N1 ops W) Jq key ops.size 0 st []with
     |some ((dm,bc),_)=>some (dm,bc,N2 BN key bc)
     |none=>none
   |none=>none)else none
 |_,_,_=>none
def tF(P:Program)(aM:kp)(rec:sH)(BN:Nat)(ck:St):Code->Nat->St->Option (List Ev×St×Nat)
 | .seq a b,key,st=>match DU P aM rec BN ck a key st with
   | some (dm,kq,Lq)=>match tF P aM rec BN ck b Lq kq with
     |some (yR,uZ,FL)=>some (dm++yR,uZ,FL)
     |none=>none
   |none=>none
 |.ret,key,st=>some ([],st,key)
 |c,key,st=>DU P aM rec BN ck c key st
def oE(P:Program)(aM:kp)(BN:Nat):Nat->sH
 |0,_,_,_,_=>none
 |_+1,st,_,dst,.aG ok e=>if nS aM.dV st then some ([.du ok e],st.put dst ⟨.c true,.Hc []⟩)else none
 | n+1,st,key,dst,.inl g vs=>match P.funcs[g]? with
   | some fn=>match fn.body with
     | some c=>if fn.name == "runtime.NumGoroutine" then none else match tF P aM (oE P aM BN n) BN st c key (qH fn vs st)with
       | some (dm,bc,_)=>match sG P bc fn.results.toList with
         |some rv=>if dF bc.has rv then some (dm,uX st bc dst (pQ rv))else none
         |none=>none
       |none=>none
     |none=>none
   |none=>none
 |_+1,_,_,_,.Lm _ _=>none
 |_+1,st,_,dst,.val x=>some ([],st.put dst ⟨.c true,.v x⟩)
def lK(P:Program)(aM:kp)(ops:Array Oper)(st:St)(key:Nat)(o:Oper):Option (List Ev×St):=
 match guardOf ops st o with
 | some (.c true)=>match xu aM st (.c true) o.op with
   |some sp=>oE P aM (key+gW) 4 st key o.dst sp
   |none=>sF P aM ops st key o
 |_=>sF P aM ops st key o
def sI(n:Nat)(st:St):Nat:=st.o0.foldl (fun m d=>max m d.2) n
def tG(st:St)(r:List Ev×St):Option (List Ev×St):=
 if decide (r.2.next=st.next)then some (r.1,{r.2 with next:=sI st.next r.2,o0:=[] })else none
def vR(P:Program)(aM:kp)(ops:Array Oper)(st:St):Option (List Ev×St):=
 if Region.noSelect ops&&P.follows .mixedOrders&&pf ops then(match written (lK P aM ops) gW st.next 0 ops.toList st with
   | some W=>match explore P aM (lK P aM ops) ops (kt ops) none st (N1 ops W) gW st.next ops.size 0 st []with
     |some (r,_)=>tG st r
     |none=>none
   |none=>none)else none
def HA(st:St):List Nat:=st.aX.map (·.id)++(st.rows.map (·.id)++st.a8.map (·.id))
def pg(m n:Nat):List Bool:=List.replicate m true++List.replicate (n-m) false
def DW(kH:List RO)(m:Nat):Bool:=kH.all fun r=>!tb m r.i||Nat.beq (Nat.land r.dep m) r.dep
def zj(P:Program)(aM:kp)(ops:Array Oper)(ck:St)(W:List Nat)(lo:Nat)(hi:Option Nat)(st:St):Option (List Ev×St):=
 match hi with
 |some hi=>if DW (kt ops) (Nat.pow 2 lo-1)&&decide (hi<ops.size)&&decide (lo<=hi)&&decide (((kt ops).filter (RO.ready (Nat.pow 2 hi-1))).map RO.i=[hi])then(match explore P aM (lK P aM ops) ops (kt ops) (some (Nat.pow 2 hi-1)) ck ⟨[],some W⟩ gW st.next (hi-lo) (Nat.pow 2 lo-1) st []with
     |some (r,_)=>tG st r
     |none=>none)else none
 |none=>if DW (kt ops) (Nat.pow 2 lo-1)&&decide (lo<=ops.size)then(match explore P aM (lK P aM ops) ops (kt ops) none ck ⟨[],some W⟩ gW st.next (ops.size-lo) (Nat.pow 2 lo-1) st []with
     |some (r,_)=>tG st r
     |none=>none)else none
def HB(ck:St)(W:List Nat)(st:St):Bool:=
 ck.aX.all (fun b=>W.contains b.id||decide (gj st b.id=some b))&&ck.rows.all (fun r=>W.contains r.id)
def pR(aM:kp)(st:St):St:=T3 {st with aX:=mh ⟨st.next,aM.pc,[.i .i64 (.c 0)]⟩ st.aX}
def fO(aM:kp)(st:St):St:={pR aM st with aX:=(pR aM st).aX.filter fun b=>!aM.FH.contains b.id}
def lU(st:St)(id:Nat)(e:IE):St:={st with aX:=st.aX.map fun b=>if b.id=id then {b with cells:=[.i .i64 e] }else b}
def u9:List Ev->au->au
 | [],t=>t
 |.du p e::es,t=>.ite p (u9 es t) (.fail e)
 |e::es,t=>.ev e (u9 es t)
abbrev Ex:=Option St->FuncId->List V1->St->(List V1->St->au)->au
def Jt(aM:kp)(h:Option St)(ex:Ex)(st:St)(dst:Option Tmp)(rest:St->au):Spec->au
 |.inl g vs=>ex h g vs st fun rv bc=>rest (uX st bc dst (pQ rv))
 |.aG ok e=>.ite ok (rest (st.put dst ⟨.c true,.Hc []⟩)) (WB h st e)
 |.val x=>rest (st.put dst ⟨.c true,.v x⟩)
 |.Lm g vs=>if aM.FH.contains st.next then .stuck "drops" else .fz (st.next+1) (rest (uX st (lU (fO aM st) st.next (.v (st.next+1))) dst (.v (.one (.i .i64 (.v (st.next+1)))))))
     (ex (some (fO aM st)) g vs (pR aM st) fun rv bc=>if decide (rv=[])&&decide (gj bc st.next=some ⟨st.next,aM.pc,[.i .i64 (.c 0)]⟩)then .pop (rest (uX st bc dst (.v (.one (.i .i64 (.c 0))))))else .stuck "try")
def kx(P:Program)(aM:kp)(h:Option St)(ops:Array Oper)(ex:Ex):List Oper->St->(St->au)->au
 | [],st,k=>k st
 | o::rest,st,k=>match guardOf ops st o with
   |none=>.stuck ("guard " ++ o.pos)
   | some G=>match xu aM st G o.op with
     | none=>(match sF P aM ops st st.next o with
       | some r=>match tG st r with
         |some (dm,bc)=>u9 dm (kx P aM h ops ex rest bc k)
         |none=>.stuck "names"
       |none=>.stuck ("operation " ++ o.pos ++ " slot " ++ toString (o.dst.getD 0)))
     | some sp=>
       match G with
       |.c true=>Jt aM h ex st o.dst (fun bc=>kx P aM h ops ex rest bc k) sp
       |.c false=>kx P aM h ops ex rest (st.put o.dst kf) k
       |G=>.ite G (Jt aM h ex st o.dst (fun bc=>kx P aM h ops ex rest bc k) sp) (kx P aM h ops ex rest ((st.know G false).put o.dst kf) k)
def N3(P:Program)(aM:kp)(ops:Array Oper)(base:Nat):Nat->List Oper->St->String
 |_,[],_=> "all"
 | i,o::rest,st=>match lK P aM ops st (base+i*gW) o with
   |some (_,bc)=>N3 P aM ops base (i+1) rest bc
   |none=> "op " ++ toString i ++ " " ++ o.pos
def z8(aM:kp)(Bu:Ye)(ops:Array Oper)(last:Bool)(base:Nat):Nat->Array Bool->St->Option (List Ev×St)
 |0,_,st=>some ([],st)
 | n+1,listed,st=>match(if last then(Region.ready .any ops listed).reverse else Region.ready .any ops listed)with
   | []=>some ([],st)
   | i::_=>match ops[i]? with
     |none=>none
     | some o=>match Bu st (base+i*gW) o with
       | some (dm,bc)=>match z8 aM Bu ops last base n (listed.setIfInBounds i true) bc with
         |some (yR,KY)=>some (zZ aM.sig (dm++yR),KY)
         |none=>none
       |none=>none
def af0(P:Program)(aM:kp)(ops:Array Oper)(st:St):String:=
 match z8 aM (lK P aM ops) ops false st.next ops.size (Array.replicate ops.size false) st,z8 aM (lK P aM ops) ops true st.next ops.size (Array.replicate ops.size false) st with
 |some x,some y=>if x=y then "same" else "evs " ++ toString (decide (x.1=y.1)) ++ " tmps " ++ toString (decide (x.2.tmps=y.2.tmps)) ++ " blks " ++ toString (decide (x.2.aX=y.2.aX)) ++ " rows " ++ toString (decide (x.2.rows=y.2.rows)) ++ " dom " ++ toString (decide (x.2.o0=y.2.o0))++(reprStr x.1).replace "Go.Sx." "" ++ " ---- " ++ (reprStr y.1).replace "Go.Sx." ""
 |some _,none=> "none 2" |none,_=> "none 1"
def vS(P:Program)(aM:kp)(h:Option St)(ops:Array Oper)(ex:Ex)(ck:St)(W:List Nat):List Nat->Nat->St->(St->au)->au
 | [],lo,st,k=>match zj P {aM with dV:=h} ops ck W lo none st with
   |some (dm,bc)=>u9 dm (k bc)
   |none=>.stuck ("region, end " ++ toString lo ++ " " ++ ((ops[0]?).map (·.pos)).getD "")
 | p::ps,lo,st,k=>match zj P {aM with dV:=h} ops ck W lo (some p) st with
   | some (dm,bc)=>u9 dm (match ops[p]? with
     |some o=>kx P aM h ops ex [o] bc fun uZ=>if HB ck W uZ then vS P aM h ops ex ck W ps (p+1) uZ k else .stuck "region, kept"
     |none=>.stuck "tail")
   |none=>.stuck ("region, up to " ++ toString p ++ " " ++ ((ops[0]?).map (·.pos)).getD "" ++ " ready " ++ toString (Region.ready .any ops (pg p ops.size).toArray) ++ " blocks" ++ String.join (st.aX.map fun b=> " " ++ toString b.id ++ ":T" ++ toString b.ty) ++ " " ++ N3 P {aM with dV:=h} ops st.next lo ((ops.toList.drop lo).take (p-lo)) st)
def gU:Code->Option Nat
 |.region id _ _=>some id
 | .seq a b=>match gU a with
   |some i=>some i
   |none=>gU b
 | .cond _ a b=>match gU a with
   |some i=>some i
   |none=>gU b
 |.block _ a=>gU a
 |.loop a=>gU a
 |.scope a=>gU a
 |_=>none
def FM:Code->List Nat
 |.region _ ops _=>ops.toList.filterMap (·.dst)
 |.seq a b=>FM a++FM b
 |.cond _ a b=>FM a++FM b
 |.block _ a=>FM a
 |.loop a=>FM a
 |.scope a=>FM a
 |_=>[]
structure Head where
 st:St
 entry:List DE
 ks:List CT
def ib(ds:List Nat)(hr:List (Nat×TypeId×List CK))(hn:List (Nat×TypeId×List NK)):Nat->Nat->List (Option aT)->List Row->List dX->Option (List (Option aT)×List Row×List dX×List DE×List CT×Nat)
 |_,id,[],rs,ns=>some ([],rs,ns,[],[],id)
 | t,id,s::rest,rs,ns=>match hr.find? (fun h=>h.1==t)with
   | some (_,e,ks)=>match s with
     | some ⟨.c true,.v (.one .kK)⟩=>if 0<ks.length then(match ib ds hr hn (t+1) (id+1) rest rs ns with
       |some (ss,eo,qy,es,cs,n)=>some (some ⟨.c true,.v (.one (.s id))⟩::ss,dr ⟨id,e,ks,id,true,.c true⟩ eo,qy,.nil::es,.s e ks::cs,n)
       |none=>none)else none
     | some ⟨.c true,.v (.one (.s r))⟩=>match rs.find? (fun x=>x.id==r)with
       |some x=>if x.own&&decide (x.g = .c true)&&decide (x.e=e)&&decide (x.ks=ks)then
           (match ib ds hr hn (t+1) (id+1) rest (rs.filter fun y=>y.id≠r) ns with
           |some (ss,eo,qy,es,cs,n)=>some (some ⟨.c true,.v (.one (.s id))⟩::ss,dr ⟨id,e,ks,id,true,.c true⟩ eo,qy,.l x.lv::es,.s e ks::cs,n)
           |none=>none)else none
       |none=>none
     |_=>none
   |none=>match hn.find? (fun h=>h.1==t)with
   | some (_,e,aN)=>match s with
     | some ⟨.c true,.v (.one .kK)⟩=>if 0<aN.length then(match ib ds hr hn (t+1) (id+1) rest rs ns with
       |some (ss,eo,qy,es,cs,n)=>some (some ⟨.c true,.v (.one (.s id))⟩::ss,eo,uT ⟨id,e,aN,id,.c true,true⟩ qy,.nil::es,.n e aN::cs,n)
       |none=>none)else none
     | some ⟨.c true,.v (.one (.s r))⟩=>match ns.find? (fun x=>x.id==r)with
       |some x=>if x.own&&decide (x.e=e)&&decide (x.aN=aN)then
           (match ib ds hr hn (t+1) (id+1) rest rs (ns.filter fun y=>y.id≠r)with
           |some (ss,eo,qy,es,cs,n)=>some (some ⟨.c true,.v (.one (.s id))⟩::ss,eo,uT ⟨id,e,aN,id,.c true,true⟩ qy,.l x.lv::es,.n e aN::cs,n)
           |none=>none)else none
       |none=>none
     |_=>none
   |none=>if ds.contains t then
       (match s with
       | some ⟨.c true,.v (.one (.i k e))⟩=>match ib ds hr hn (t+1) (id+1) rest rs ns with
         |some (ss,eo,qy,es,cs,n)=>some (some ⟨.c true,.v (.one (.i k (.v id)))⟩::ss,eo,qy,.i e::es,.c (.i k)::cs,n)
         |none=>none
       | some ⟨.c true,.v (.one (.b e))⟩=>match ib ds hr hn (t+1) (id+1) rest rs ns with
         |some (ss,eo,qy,es,cs,n)=>some (some ⟨.c true,.v (.one (.b (.v id)))⟩::ss,eo,qy,.b e::es,.c .b::cs,n)
         |none=>none
       | _=>match ib ds hr hn (t+1) id rest rs ns with
         |some (ss,eo,qy,es,cs,n)=>some (none::ss,eo,qy,es,cs,n)
         |none=>none)
     else match ib ds hr hn (t+1) id rest rs ns with
       |some (ss,eo,qy,es,cs,n)=>some (s::ss,eo,qy,es,cs,n)
       |none=>none
def eC(gF:List Nat)(base:Nat):Nat->List Row->List Row×List DE×List CT
 |_,[]=>([],[],[])
 |id,r::rs=>if gF.contains r.id&&decide (r.id<base)&&r.own&&decide (r.g = .c true)then
     ({r with lv:=id}::(eC gF base (id+1) rs).1,.l r.lv::(eC gF base (id+1) rs).2.1,.s r.e r.ks::(eC gF base (id+1) rs).2.2)
   else(r::(eC gF base id rs).1,(eC gF base id rs).2.1,(eC gF base id rs).2.2)
def qJ(l:ak):Option aT:=some ⟨.c true,.v (.one l)⟩
def eO:List iA->List (Option aT)
 | []=>[]
 |b::bs=>b.cells.map qJ++eO bs
def HC:Option aT->Option ak
 |some ⟨.c true,.v (.one l)⟩=>some l
 |_=>none
def nT:List (Option aT)->Option (List ak)
 | []=>some []
 | s::ss=>match HC s,nT ss with
   |some l,some ls=>some (l::ls)
   |_,_=>none
def Aa:List iA->List (Option aT)->Option (List iA)
 | [],_=>some []
 | b::bs,ss=>match nT (ss.take b.cells.length),Aa bs (ss.drop b.cells.length)with
   |some cs,some WC=>some ({b with cells:=cs}::WC)
   |_,_=>none
def CB(hs:List (Nat×Nat))(cr:List (Nat×Nat×TypeId×List CK))(st:St):Nat->List iA->List Nat×List (Nat×TypeId×List CK)×List (Nat×TypeId×List NK)
 |_,[]=>([],[],[])
 | t,b::bs=>
   let js:=(List.range b.cells.length).filter fun j=>hs.contains (b.id,j)
   let r:=CB hs cr st (t+b.cells.length) bs
   (js.map (t + ·)++r.1,(js.filterMap fun j=>match b.cells[j]? with
     |some (ak.s q)=>(bK st q).map fun x=>(t+j,x.e,x.ks)
     |some ak.kK=>(cr.find? fun x=>x.1==b.id&&x.2.1==j).map fun x=>(t+j,x.2.2.1,x.2.2.2)
     |_=>none)++r.2.1,(js.filterMap fun j=>match b.cells[j]? with
     | some (ak.s q)=>match bK st q with
       |some _=>none
       |none=>(eT st q).map fun x=>(t+j,x.e,x.aN)
     |_=>none)++r.2.2)
def HD(c:Code)(h:Hint)(st:St):Option Head:=
 let r:=CB h.cells h.abT st st.tmps.length st.aX
 match ib (FM c++r.1) (h.rows++r.2.1) (h.a8++r.2.2) 0 st.next (st.tmps++eO st.aX) st.rows st.a8 with
 |none=>none
 | some (ss,rs,ns,es,ks,n)=>match Aa st.aX (ss.drop st.tmps.length)with
   |some bs=>some {st:={tmps:=ss.take st.tmps.length,aX:=bs,rows:=(eC h.gF st.next n rs).1,a8:=ns,next:=n+(eC h.gF st.next n rs).2.1.length,o0:=[] },entry:=es++(eC h.gF st.next n rs).2.1,ks:=ks++(eC h.gF st.next n rs).2.2}
   |none=>none
def nodupB:List Nat->Bool
 | []=>true
 |x::xs=>!xs.contains x&&nodupB xs
def Ab(base id:Nat)(h l:ak):Option (List (DE×Option Nat)):=
 if h=l/\h.all (fun k=>decide (k<base))=true then some []else
 match h,l with
 |.i k (.v j),.i k' e=>if j=id/\k=k' then some [(.i e,none)]else none
 |.b (.v j),.b e=>if j=id then some [(.b e,none)]else none
 |_,_=>none
def Ac(base:Nat)(st:St)(id:Nat)(h s:Option aT):Option (List (DE×Option Nat)):=
 match h with
 |none=>some []
 | some h=>if s=some h/\h.all (fun k=>decide (k<base))=true then some []else
   match h,s with
   | ⟨.c true,.v (.one (.s j))⟩,some ⟨.c true,.v (.one (.s r))⟩=>if j=id then(match bK st r with
     |some y=>some [(.l y.lv,some r)]
     | none=>match eT st r with
       |some y=>some [(.l y.lv,some r)]
       |none=>none)else none
   |⟨.c true,.v (.one (.s j))⟩,some ⟨.c true,.v (.one .kK)⟩=>if j=id then some [(.nil,none)]else none
   |⟨.c true,.v (.one a)⟩,some ⟨.c true,.v (.one b)⟩=>Ab base id a b
   |_,_=>none
def pT(base:Nat)(st:St):Nat->List (Option aT)->List (Option aT)->Option (List (DE×Option Nat))
 |_,[],[]=>some []
 | id,h::hs,s::ss=>match Ac base st id h s with
   | some d=>match pT base st (id+d.length) hs ss with
     |some ds=>some (d++ds)
     |none=>none
   |none=>none
 |_,_,_=>none
def sameShape(base:Nat)(st:St):List iA->Option (List iA)
 | []=>some []
 | h::hs=>match gj st h.id,sameShape base st hs with
   |some b,some bs=>if b.ty=h.ty/\h.id<base/\b.cells.length=h.cells.length then some (b::bs)else none
   |_,_=>none
def Ju(base:Nat)(st:St)(L:List (DE×Option Nat))(x:Row):Bool:=
 if x.id<base then(if x.lv<base then decide (bK st x.id=some x)&&x.all (fun k=>decide (k<base))
   else x.own&&decide (x.g = .c true)&&(match L[x.lv-base]?,bK st x.id with
     |some (.l lv,none),some y=>y.own&&decide (y.g = .c true)&&decide (y.e=x.e)&&decide (y.ks=x.ks)&&decide (y.lv=lv)
     |_,_=>false))
 else decide (x.lv=x.id)&&x.own&&decide (x.g = .c true)&&(match L[x.id-base]? with
   | some (.l lv,some r)=>(match bK st r with
     |some y=>y.own&&decide (y.g = .c true)&&decide (y.e=x.e)&&decide (y.ks=x.ks)&&decide (y.lv=lv)
     |none=>false)
   |some (.nil,none)=>decide (0<x.ks.length)
   |_=>false)
def Ad(base:Nat)(st:St)(L:List (DE×Option Nat))(x:dX):Bool:=
 if x.id<base then decide (eT st x.id=some x)&&x.all (fun k=>decide (k<base))
 else decide (x.lv=x.id)&&x.own&&decide (x.g = .c true)&&(match L[x.id-base]? with
   | some (.l lv,some r)=>(match bK st r,eT st r with
     |none,some y=>y.own&&decide (y.e=x.e)&&decide (y.aN=x.aN)&&decide (y.lv=lv)
     |_,_=>false)
   |some (.nil,none)=>decide (0<x.aN.length)
   |_=>false)
def sJ:CT->DE->Bool
 |.c (.i _),.i _=>true
 |.c .b,.b _=>true
 |.c .f,.i _=>true
 |.s _ _,.l _=>true
 |.s _ _,.nil=>true
 |.n _ _,.l _=>true
 |.n _ _,.nil=>true
 |_,_=>false
def tH:List CT->List DE->Bool
 | [],[]=>true
 |c::cs,d::ds=>sJ c d&&tH cs ds
 |_,_=>false
def origins(L:List (DE×Option Nat)):List Nat:=L.filterMap (·.2)
def N4(base:Nat)(st:St):Nat->List Row->Option (List (DE×Option Nat))
 |_,[]=>some []
 |id,x::xs=>if x.id<base/\base<=x.lv then(if x.lv=id then(match bK st x.id,N4 base st (id+1) xs with
     |some y,some L=>some ((.l y.lv,none)::L)
     |_,_=>none)else none)else N4 base st id xs
def back(base:Nat)(ks:List CT)(h st:St):Option (List DE):=
 match sameShape base st h.aX with
 | some bs=>match pT base st base (h.tmps++eO h.aX) (st.tmps++eO bs)with
   | some L1=>match N4 base st (base+L1.length) h.rows with
     | some L2=>if decide (h.tmps.length=st.tmps.length)&&(h.rows.all (Ju base st (L1++L2))&&nodupB (origins (L1++L2))&&(origins (L1++L2)).all (fun r=>!(h.rows.any fun x=>decide (x.id<base)&&x.id==r) && !(h.a8.any fun x=>decide (x.id<base)&&x.id==r))&&tH ks ((L1++L2).map (·.1)))&&h.a8.all (Ad base st (L1++L2))
       then some ((L1++L2).map (·.1))else none
     |none=>none
   |none=>none
 |none=>none
inductive K where
 |code (c:Code)
 |ny (id:Nat)
 |loop (c:Code)
 |yZ (c:Code) (id base:Nat) (head:St) (ks:List CT)
def vT(id:Nat):List K->Option (List K)
 | []=>none
 |.ny vA::k=>if vA=id then some k else vT id k
 |_::k=>vT id k
def vU(id:Nat):List K->Bool
 | []=>false
 |.yZ _ vA _ _ _::k=>vA==id||vU id k
 |_::k=>vU id k
def rowsOf:List V1->List Nat
 | []=>[]
 |v::vs=>(v.leaves.filterMap fun| .s r=>some r|_=>none)++rowsOf vs
def qK(res:List VT)(vs:List V1)(st:St):au:=
 match res,vs with
 | [.ptr e ks],[.one (.p id 0)]=>(match gj st id with
   | some b=>if decide (b.ty=e)&&decide (0<ks.length)then(match eL ks b.cells with
     |some xs=>.ret [.uV xs]
     |none=>.stuck "ret. cells")else .stuck "ret. block"
   |none=>.stuck "ret. no block")
 | res,vs=>match nQ st (.c true) res vs with
   |some ds=>if iB res&&nodupB (rowsOf vs)&&(rowsOf vs).all (fun r=>match bK st r with|some x=>x.own&&decide (x.g = .c true)|none=>false)
       then .ret ds else if eZ res&&(bI res).any CT.wM&&qG (bI res)&&(rowsOf vs).all (fun r=>match bK st r,eT st r with|none,some x=>x.own|_,_=>false)
       then .ret ds else .stuck "ret. a row that is not own"
   |none=>.stuck "ret. types"
def nU(sg:bR)(vs:List V1)(st:St):au:=
 match nQ st (.c true) sg.res vs with
 |some ds=>if iB sg.res&&xt (cL (bF vs))&&(cL (bF vs)).all (fun r=>match bK st r with
     |some x=>decide (x.g = .c true)&&(x.own||(decide (x.id<sg.cons)&&decide (x.lv=x.id)&&decide ((bI sg.args)[x.id]?=some (.s x.e x.ks))))
     |none=>false)
     then .ret ds else .stuck "ret. a row that is neither own nor handed over"
 |none=>.stuck "ret. types"
def T5(P:Program)(fn:Func)(st:St)(kr:List V1->St->au):au:=
 match sG P st fn.results.toList with
 |some vs=>if dF st.has vs then kr vs st else .stuck "ret. names"
 |none=>.stuck "ret. a result"
def ak.fix(k:Nat)(v:Int):ak->ak
 |.i kd (.v j)=>if j=k then .i kd (.c v)else .i kd (.v j)
 |l=>l
def V1.fix(k:Nat)(v:Int):V1->V1
 |.one l=>.one (l.fix k v)
 |.agg ls=>.agg (ls.map (ak.fix k v))
def SV.fix(k:Nat)(v:Int):SV->SV
 |.v x=>.v (x.fix k v)
 |.Hc xs=>.Hc (xs.map (V1.fix k v))
def St.fix(st:St)(k:Nat)(v:Int):St:=
 {st with tmps:=st.tmps.map (fun s=>s.map fun s=>{s with sv:=s.sv.fix k v}),aX:=st.aX.map fun b=>{b with cells:=b.cells.map (ak.fix k v) } }
def N5(no:List (Nat×Int)):BE->Bool
 |.eq (.v k) (.c n)=>no.contains (k,n)
 |_=>false
def va(k:Nat)(f:Int->au)(d:au):List Nat->au
 | []=>d
 |v::vs=>.ite (.eq (.v k) (.c (v:Int))) (f (v:Int)) (va k f d vs)
def HE(k:Nat)(f:Int->au):List Nat->au
 | []=>.stuck "split"
 |v::vs=>.ite (.eq (.v k) (.c (v:Int))) (f (v:Int)) (HE k f vs)
def DX(go:St->au):List (Nat×Nat×Nat)->St->au
 | [],st=>go st
 |(_,x,m)::ps,st=>HE x (fun v=>DX go ps (st.fix x v)) (List.range m)
def gid(f:FuncId)(i:Nat):Nat:=f*1000+i
def nV:List K->List Nat
 | []=>[]
 |.yZ _ id _ _ _::k=>id::nV k
 |_::k=>nV k
def DY(P:Program)(aM:kp)(h:Option St)(ops:Array Oper)(draw:Bool)(tail:Option (List Nat×List Nat))(ex:Ex)(st:St)(k:St->au):au:=
 if draw then(match tail with
   |some (ps,kb)=>if Region.noSelect ops&&P.follows .mixedOrders&&pf ops then vS P aM h ops ex st ((HA st).filter fun i=>!kb.contains i) ps 0 st k else .stuck "region, select"
   | none=>(match vR P {aM with dV:=h} ops st with
     |some (dm,bc)=>u9 dm (k bc)
     |none=>.stuck ("region " ++ ((ops[0]?).map (·.pos)).getD "" ++ " " ++ af0 P {aM with dV:=h} ops st ++ " " ++ N3 P {aM with dV:=h} ops st.next 0 ops.toList st)))
 else kx P aM h ops ex ops.toList st k
def T6(P:Program)(run:Option St->FuncId->Func->Code->St->(List V1->St->au)->au):Ex:=fun h g vs st kr=>match P.funcs[g]? with
 | some fn=>(match fn.body with
   |some c=>if fn.name == "runtime.NumGoroutine" then .stuck "NumGoroutine" else run h g fn c (qH fn vs st) kr
   |none=>.stuck "no body")
 |none=>.stuck "no function"
def N6(base:Nat)(h st:St):String:=
 "again; cells:" ++ String.join (h.aX.map fun b=>match gj st b.id with
   | some c=>String.join ((List.range b.cells.length).filterMap fun j=>match b.cells[j]?,c.cells[j]? with
     |some x,some y=>if x=y||(match x with| .i _ (.v k)=>decide (base<=k)| .b (.v k)=>decide (base<=k)| .s k=>decide (base<=k)|_=>false)then none else some (" " ++ toString b.id ++ ":" ++ toString j)
     |_,_=>none)
   | none=> " no " ++ toString b.id) ++ "; slots:" ++ String.join ((List.range h.tmps.length).filterMap fun t=>match h.tmps[t]?,st.tmps[t]? with
     |some (some x),some y=>if some x=y then none else some (" " ++ toString t)
     |_,_=>none) ++ "; rows:" ++ String.join (h.rows.filterMap fun r=>if bK st r.id=some r||decide (base<=r.id)then none else some (" " ++ toString r.id))
def exec(P:Program)(aM:kp):Nat->Option St->List Nat->FuncId->Func->List K->St->(List V1->St->au)->au
 |0,_,_,_,_,_,_,_=>.stuck "fuel"
 |_+1,_,_,_,fn,[],st,kr=>T5 P fn st kr
 |n+1,h,L,f,fn,.ny _::k,st,kr=>exec P aM n h L f fn k st kr
 |n+1,h,L,f,fn,.loop c::k,st,kr=>exec P aM n h L f fn (.code c :: .loop c::k) st kr
 | _+1,_,_,_,_,.yZ _ id base hd ks::_,st,_=>match back base ks hd st with
   |some bG=>.again id bG
   |none=>.stuck (toString id ++ " " ++ N6 base hd st)
 | n+1,h,L,f,fn,.code c::k,st,kr=>match c with
   |.skip=>exec P aM n h L f fn k st kr
   |.label _=>exec P aM n h L f fn k st kr
   |.seq a b=>exec P aM n h L f fn (.code a :: .code b::k) st kr
   | .cond x a b=>match bA st (.c true) x with
     |some (.b (.c true))=>exec P aM n h L f fn (.code a::k) st kr
     |some (.b (.c false))=>exec P aM n h L f fn (.code b::k) st kr
     |some (.b p)=>if N5 aM.no p then exec P aM n h L f fn (.code b::k) st kr else .ite p (exec P aM n h L f fn (.code a::k) st kr) (exec P aM n h L f fn (.code b::k) st kr)
     |_=>.stuck "cond"
   |.block id c=>exec P aM n h L f fn (.code c :: .ny id::k) st kr
   | .loop c=>match(gU c).bind (fun i=>(aM.loops.find? (fun p=>p.1==gid f i)).map fun p=>(gid f i,p.2))with
     |none=>exec P aM n h L f fn (.code c :: .loop c::k) st kr
     | some (i,hn)=>match HD c hn st with
       |some hd=>if vU i k||L.contains i then .stuck "loop in itself" else .loop i hd.entry hd.ks st.next (exec P aM n h L f fn (.code c :: .yZ c i st.next hd.st hd.ks::k) hd.st kr)
       |none=>.stuck "loop head"
   | .exit id=>match vT id k with
     |some k'=>exec P aM n h L f fn k' st kr
     |none=>.stuck "exit"
   |.ret=>T5 P fn st kr
   | .region id ops draw=>
     let ex:Ex:=T6 P (fun h' g Nd c bc kr'=>exec P aM n h' (L++nV k) g Nd [.code c] bc kr')
     let go:St->au:=fun st=>DY P aM h ops draw ((aM.Wz.find? fun p=>p.1==gid f id).map (·.2)) ex st (fun bc=>exec P aM n h L f fn k bc kr)
     DX go (aM.splits.filter fun p=>p.1==gid f id) st
   |_=>.stuck "code"
def lV(args:List VT):List V1×List Row:=
 let(vs,rows):=cd (.c true) 0 args
 (vs,rows.map fun r=>{r with own:=false})
def start(fn:Func)(args:List VT):St:=
 let(vs,rows):=lV args
 {tmps:=vs.map (fun v=>some ⟨.c true,.v v⟩)++List.replicate (fn.ntmps-vs.length) none,aX:=[],rows,a8:=ei false (.c true) 0 (bI args),next:=(bI args).length,o0:=[] }
def sK(P:Program)(aM:kp)(f:FuncId)(fn:Func)(sg:bR)(fuel:Nat):au:=
 match fn.body with
 | some c=>
   let ret:=if sg.cons=0 then qK sg.res else nU sg
   match aM.zW with
   |none=>exec P aM fuel none [] f fn [.code c] (start fn sg.args) ret
   |some (x,m)=>if decide (x<(start fn sg.args).next)then va x (fun v=>exec P aM fuel none [] f fn [.code c] ((start fn sg.args).fix x v) ret)
       (exec P {aM with no:=(List.range m).map fun(v:Nat)=>(x,(v:Int)) } fuel none [] f fn [.code c] (start fn sg.args) ret) (List.range m)else .stuck "split"
 |none=>.stuck "no body"
def iM(ks:List BE):BE->Bool
 |.and a b=>ks.contains (.and a b)||(iM ks a&&iM ks b)
 |.or a b=>ks.contains (.or a b)||(iM ks a||iM ks b)
 |.c true=>true
 |p=>ks.contains p
def sL(ks:List BE):BE->BE
 |.or (.not g) n=>if iM ks g then n else .or (.not g) n
 |p=>p
def iN(p:BE)(ks:List BE):List BE:=
 match p with
 |.and a b=>.and a b::iN a (iN b ks)
 |p=>p::ks
def prune(ks:List BE):au->au
 |.ret vs=>.ret vs
 |.stuck _=>.stuck ""
 |.ev (.aG p) t=>if iM ks (sL ks p)then prune ks t else .ev (.aG (sL ks p)) (prune (iN (sL ks p) ks) t)
 |.ev e t=>.ev e (prune [] t)
 |.ite c a b=>.ite c (prune (iN c ks) a) (prune ((BE.not c).mk::ks) b)
 |.loop id es kd base body=>.loop id es kd base (prune [] body)
 |.again id vs=>.again id vs
 |.fail e=>.fail e
 |.fz x tp t=>.fz x (prune [] tp) (prune ks t)
 |.pop t=>.pop (prune ks t)
def sM(l:List (FuncId×bR)):FuncId->Option bR:=fun f=>(l.find? fun p=>p.1==f).map (·.2)
theorem IE.cn(ae:az)(e:IE):e.mk.af ae=e.af ae:=by
 unfold IE.mk;split<;>simp[IE.af];split<;>simp_all
theorem BE.cn(ae:az)(e:BE):e.mk.af ae=e.af ae:=by
 unfold BE.mk;split<;>simp only[BE.af,IE.af,Bool.not_not,Bool.true_and,Bool.false_and,Bool.and_true,Bool.or_false,Bool.false_or,Bool.true_or]
 all_goals first|rfl|(generalize BE.af ae _=y;cases y<;>rfl)
theorem BE.cN{ae:az}{G g:BE}(h:G.iW g=true)(hG:G.af ae=true):g.af ae=true:=by
 induction G with
 | and x y M6 Ns=>
   unfold BE.iW at h;simp only[BE.af,ao]at hG;simp only[fF,aC]at h;rcases h with(rfl|rfl)|(h|h);rfl;simp[BE.af,hG];exact M6 h hG.1;exact Ns h hG.2
 | _=>
   unfold BE.iW at h;simp only[fF,aC]at h;rcases h with(rfl|rfl)|h;rfl;exact hG;cases h
theorem BE.Cg{ae:az}{G n:BE}(hG:G.af ae=true)(h:(BE.under G n).af ae=true):n.af ae=true:=by
 unfold BE.under at h;split at h;exact h;simpa[BE.af,hG]using h
theorem TK{ae:az}{k:IntKind}{e:IE}(h:(inR k e).af ae=true):k.min<=e.af ae/\e.af ae<=k.max:=by
 unfold inR at h;split at h
 all_goals
   simp only[BE.af,IE.af,ao,aC]at h ⊢
   first|exact h|exact⟨mC h.1,mC h.2⟩
theorem IE.ar{p:Nat->Bool}{ae aq:az}(h:∀k,p k=true->ae k=aq k):∀ {e:IE},e.all p=true->e.af ae=e.af aq:=by
 intro e;induction e with
 |v k=>intro ha;simp only[IE.all]at ha;simp[IE.af,h k ha]
 |c n=>intro _;rfl
 |len k=>intro ha;simp only[IE.all]at ha;simp[IE.af,h k ha]
 |get k i j ih=>intro ha;simp only[IE.all,ao]at ha;simp[IE.af,h k ha.1,ih ha.2]
 |kZ i n a b tX tY XT=>intro ha;simp only[IE.all,ao]at ha;simp[IE.af,tX ha.1,tY ha.2.1,XT ha.2.2]
 |ediv a n ih=>intro ha;simp only[IE.all]at ha;simp[IE.af,ih ha]
 |emod a n ih=>intro ha;simp only[IE.all]at ha;simp[IE.af,ih ha]
 |wrap k a ih=>intro ha;simp only[IE.all]at ha;simp[IE.af,ih ha]
 |bits op k a b tX tY=>intro ha;simp only[IE.all,ao]at ha;simp[IE.af,tX ha.1,tY ha.2]
 |_ a b tX tY=>intro ha;simp only[IE.all,ao]at ha;simp[IE.af,tX ha.1,tY ha.2]
theorem BE.ar{p:Nat->Bool}{ae aq:az}(h:∀k,p k=true->ae k=aq k):∀ {e:BE},e.all p=true->e.af ae=e.af aq:=by
 intro e;induction e with
 |v k=>intro ha;simp only[BE.all]at ha;simp[BE.af,h k ha]
 |c n=>intro _;rfl
 |not a ih=>intro ha;simp only[BE.all]at ha;simp[BE.af,ih ha]
 |tu a=>intro ha;simp only[BE.all]at ha;simp[BE.af,IE.ar h ha]
 |and a b tX tY=>intro ha;simp only[BE.all,ao]at ha;simp[BE.af,tX ha.1,tY ha.2]
 |or a b tX tY=>intro ha;simp only[BE.all,ao]at ha;simp[BE.af,tX ha.1,tY ha.2]
 |iff a b tX tY=>intro ha;simp only[BE.all,ao]at ha;simp[BE.af,tX ha.1,tY ha.2]
 |lt a b=>intro ha;simp only[BE.all,ao]at ha;simp[BE.af,IE.ar h ha.1,IE.ar h ha.2]
 |le a b=>intro ha;simp only[BE.all,ao]at ha;simp[BE.af,IE.ar h ha.1,IE.ar h ha.2]
 |eq a b=>intro ha;simp only[BE.all,ao]at ha;simp[BE.af,IE.ar h ha.1,IE.ar h ha.2]
structure bt(p:Nat->Bool)(ae aq:az)(ph aJ:Ph):Prop where
 e:∀k,p k=true->ae k=aq k
 r:∀k,p k=true->ph.r k=aJ.r k
 v:∀k,p k=true->ph.v k=aJ.v k
variable {p:Nat->Bool}{ae aq:az}{ph aJ:Ph}
theorem dp.ar(h:bt p ae aq ph aJ):∀ {l:dp},l.all p=true->l.af ae ph=l.af aq aJ:=by
 intro l ha;cases l with
 |i k e=>simp only[dp.all]at ha;simp[dp.af,IE.ar h.e ha]
 |b e=>simp only[dp.all]at ha;simp[dp.af,BE.ar h.e ha]
 |s row=>simp only[dp.all]at ha;simp[dp.af,Ph.val,h.v _ ha]
 |kK=>rfl
theorem dp.Dn{l:dp}:l.up.af ae ph=l.af ae ph:=by cases l<;>rfl
theorem ak.down_up{l:ak}{x:dp}(h:l.down=some x):l=x.up:=by
 cases l<;>simp_all[ak.down]<;>(subst h;rfl)
theorem ak.ar(h:bt p ae aq ph aJ):∀ {l:ak},l.all p=true->l.af ae ph=l.af aq aJ:=by
 intro l ha;cases l with
 |i k e=>simp only[ak.all]at ha;simp[ak.af,IE.ar h.e ha]
 |b e=>simp only[ak.all]at ha;simp[ak.af,BE.ar h.e ha]
 |p id off=>simp only[ak.all]at ha;simp[ak.af,h.r _ ha]
 |ep row sz x j=>simp only[ak.all,ao]at ha;simp[ak.af,h.v _ ha.1,IE.ar h.e ha.2]
 |pi id off sz n x=>simp only[ak.all,ao]at ha;simp[ak.af,h.r _ ha.1,IE.ar h.e ha.2]
 |s row=>simp only[ak.all]at ha;simp[ak.af,Ph.val,h.v _ ha]
 |kK=>rfl
 |TL=>rfl
 |f g=>rfl
 | fn g dx=>
   simp only[ak.all,jE]at ha;simp only[ak.af];congr 2;exact rm fun c hc=>by
     unfold mc;rw[h.r _ (ha c hc),h.v _ (ha c hc)]
 |fl e=>simp only[ak.all]at ha;simp[ak.af,IE.ar h.e ha]
 |str bs=>rfl
 |TM=>rfl
 |Hj=>rfl
 | bf g agg ls=>
   simp only[ak.all,jE]at ha;have e:ls.map (dp.af ae ph)=ls.map (dp.af aq aJ):=rm fun c hc=>dp.ar h (ha c hc);simp only[ak.af,e]
 |vw row sz lo n=>simp only[ak.all,ao]at ha;simp[ak.af,h.v _ ha.1,IE.ar h.e ha.2.1,IE.ar h.e ha.2.2]
 |cs row=>simp only[ak.all]at ha;simp[ak.af,h.v _ ha]
 |bs id n sz=>simp only[ak.all]at ha;simp[ak.af,h.r _ ha]
 |kb row bs=>simp only[ak.all]at ha;simp[ak.af,Ph.val,h.v _ ha]
 |ab row m b=>simp only[ak.all]at ha;simp[ak.af,h.v _ ha]
theorem j7(h:bt p ae aq ph aJ):∀ {ls:List ak},bq p ls=true->ls.map (ak.af ae ph)=ls.map (ak.af aq aJ):=by
 intro ls;induction ls with
 |nil=>intro _;rfl
 | cons l ls ih=>
   intro ha;simp only[bq,ao]at ha;simp only[jK,ak.ar h ha.1,ih ha.2]
theorem V1.ar(h:bt p ae aq ph aJ):∀ {x:V1},x.all p=true->x.af ae ph=x.af aq aJ:=by
 intro x ha;cases x with
 |one l=>exact ak.ar h ha
 |agg ls=>simp only[V1.all]at ha;simp only[V1.af,j7 h ha]
theorem Ch(h:bt p ae aq ph aJ):∀ {xs:List V1},dF p xs=true->xs.map (V1.af ae ph)=xs.map (V1.af aq aJ):=by
 intro ls;induction ls with
 |nil=>intro _;rfl
 | cons l ls ih=>
   intro ha;simp only[dF,ao]at ha;simp only[jK,V1.ar h ha.1,ih ha.2]
theorem SV.ar(h:bt p ae aq ph aJ):∀ {x:SV},x.all p=true->x.af ae ph=x.af aq aJ:=by
 intro x ha;cases x with
 |v x=>exact V1.ar h ha
 |Hc xs=>simp only[SV.all]at ha;simp only[SV.af,Ch h ha]
theorem aT.ar(h:bt p ae aq ph aJ){s:aT}(ha:s.all p=true):s.af ae ph=s.af aq aJ:=by
 simp only[aT.all,ao]at ha;simp only[aT.af,BE.ar h.e ha.1,SV.ar h ha.2]
end
section
open Go.RowKit
def CK.val:CK->Int->Value
 |.i k,n=>.int k n
 |.b,n=>.bool (decide (n≠0))
 |.f,n=>.float .f64 n.toNat
def bP:List CK->Nat->List Int->List Value
 | [],_,_=>[]
 |k::ks,j,r=>k.val (r.getD j 0)::bP ks (j+1) r
def aB(ks:List CK):List (List Int)->List Value
 | []=>[]
 |r::rs=>bP ks 0 r++aB ks rs
theorem cx(ks:List CK):∀j r,(bP ks j r).length=ks.length:=by
 induction ks with
 |nil=>intro j r;rfl
 |cons k ks ih=>intro j r;simp[bP,ih]
theorem iX(ks:List CK):∀(j0:Nat) (r:List Int) (j:Nat),(bP ks j0 r)[j]?=(ks[j]?).map fun k=>k.val (r.getD (j0+j) 0):=by
 induction ks with
 |nil=>intro j0 r j;simp[bP]
 | cons k ks ih=>
   intro j0 r j;cases j with
   |zero=>simp[bP]
   | succ j=>
     simp only[bP,zy,ih];rw[show j0+1+j=j0+(j+1)by omega]
theorem bQ(ks:List CK)(xs:List (List Int)):(aB ks xs).length=xs.length*ks.length:=by
 induction xs with
 |nil=>simp[aB]
 |cons r rs ih=>simp[aB,cx,ih,la,Nat.add_comm]
theorem mf(ks:List CK)(xs ys:List (List Int)):aB ks (xs++ys)=aB ks xs++aB ks ys:=by
 induction xs with
 |nil=>rfl
 |cons r rs ih=>simp[aB,ih]
theorem mH(ks:List CK):∀(xs:List (List Int)) (i j:Nat),i<xs.length->j<ks.length->
   (aB ks xs)[i*ks.length+j]?=(ks[j]?).map fun k=>k.val ((xs.getD i []).getD j 0):=by
 intro xs;induction xs with
 |nil=>intro i j hi;simp at hi
 | cons r rs ih=>
   intro i j hi hj;cases i with
   | zero=>
     simp only[aB,Nat.zero_mul,fC];rw[mJ (by rw[cx];exact hj),iX];simp
   | succ i=>
     simp only[aB];rw[pB (by rw[cx,la];omega),cx];have e:(i+1)*ks.length+j-ks.length=i*ks.length+j:=by rw[la];omega
     rw[e,ih i j (by simpa using hi) hj];simp
theorem CK.ox(k:CK)(n:Int):(k.val n).oneCell'=true:=by cases k<;>rfl
theorem iY(ks:List CK)(xs:List (List Int)):∀u∈aB ks xs,u.oneCell'=true:=by
 have bj:∀(ks:List CK) j r,∀u∈bP ks j r,u.oneCell'=true:=by
   intro ks;induction ks with
   |nil=>intro j r u hu;simp[bP]at hu
   | cons k ks ih=>
     intro j r u hu;simp only[bP,bD]at hu;rcases hu with rfl|hu;exact CK.ox _ _;exact ih _ _ u hu
 induction xs with
 |nil=>intro u hu;simp[aB]at hu
 | cons r rs ih=>
   intro u hu;simp only[aB,lQ]at hu;rcases hu with hu|hu;exact bj _ _ _ u hu;exact ih u hu
def Reads(w:World)(v:Value)(n:Nat)(cells:List Value):Prop:=
 ∃base cap,v = .slice base n cap/\(n<=maxLen/\n<=cap)/\(base=none->n=0/\cap=0)/\∀j u,cells[j]?=some u->∃a,base=some a/\w.cell? (a.add j)=some u
theorem oW{w:World}{B:Nat}{e:TypeId}{sz:Nat}{v:Value}{n:Nat}{xs:List Value}(h:w.ownsRow B e sz v n xs):Reads w v n xs:=by
 have h':=h;obtain⟨hl,⟨rfl,rfl⟩|⟨g,cap,cur,rfl,hg,hh,hn,hc,hs,ht⟩⟩:=h;refine⟨none,0,rfl,⟨Nat.zero_le _,Nat.zero_le _⟩,fun _=>⟨rfl,rfl⟩,fun j u hj=>?_⟩;rw[Nat.zero_mul]at hl;rw[Dp hl]at hj;simp at hj;refine⟨some ⟨g,0,none⟩,cap,rfl,⟨kL hn hc,hn⟩,fun h=>by simp at h,fun j u hj=>⟨_,rfl,?_⟩⟩;exact h'.cells (by simp[Value.ownBlock]) j u hj
def gA(B:Nat)(ae:az)(ph:Ph)(r:Row)(w:World):Prop:=
 0<r.ks.length/\
 (if r.own then w.ownsRow B r.e r.ks.length (ph.val r.id) (ae r.lv).list.length (aB r.ks (ae r.lv).list)
  else Reads w (ph.val r.id) (ae r.lv).list.length (aB r.ks (ae r.lv).list))
theorem gA.reads{B:Nat}{ae:az}{ph:Ph}{r:Row}{w:World}(h:gA B ae ph r w) :
   Reads w (ph.val r.id) (ae r.lv).list.length (aB r.ks (ae r.lv).list):=by
 obtain⟨_,h⟩:=h;split at h;exact oW h;exact h
def Row.bU(ae:az)(ph:Ph)(r:Row):Option Nat:=if r.own||decide ((ae r.lv).list.length≠0)then(ph.val r.id).ownBlock else none
theorem gA.tv{B:Nat}{ae:az}{ph:Ph}{r:Row}{w:World}(h:gA B ae ph r w){k:Nat}(hk:r.bU ae ph=some k):k<w.heap.size:=by
 obtain⟨h0,h⟩:=h;unfold Row.bU at hk;split at hk;rename_i hc;split at h;exact(h.lt k hk).2;rename_i ho;have cQ:(ae r.lv).list.length≠0:=by simpa[ho]using hc
 obtain⟨base,cap,hv,_,_,jn⟩:=h;have hl:=bQ r.ks (ae r.lv).list;have mK:0<(aB r.ks (ae r.lv).list).length:=by rw[hl];exact Nat.mul_pos (by omega) h0
 obtain⟨a,rfl,ha⟩:=jn 0 _ (dG mK);rw[hv]at hk;simp only[Value.ownBlock,ah]at hk;have:=World.block_lt_of_cell? w (a.add 0) ha;rw[Addr.add_zero']at this;omega;cases hk
def uk(B:Nat)(ae:az)(ph:Ph)(b:iA)(w:World):Prop:=
 B<=ph.r b.id/\w.heap[ph.r b.id]?=some (.cells (b.cells.map (ak.af ae ph)).toArray b.ty (0,0))
structure jS(B:Nat)(ae:az)(ph:Ph)(aX:List iA)(rows:List Row)(w:World):Prop where
 ny:∀b∈aX,uk B ae ph b w
 bb:∀b∈aX,∀b'∈aX,b.id≠b'.id->ph.r b.id≠ph.r b'.id
 row:∀r∈rows,r.g.af ae=true->gA B ae ph r w
 br:∀b∈aX,∀r∈rows,r.g.af ae=true->r.bU ae ph≠some (ph.r b.id)
 rr:∀r∈rows,∀r'∈rows,r.id≠r'.id->r.own=true->r.g.af ae=true->r'.g.af ae=true->∀k,r.bU ae ph=some k->r'.bU ae ph≠some k
def fS(ae:az)(ph:Ph)(ts:List (Option aT))(tmps:Array Value):Prop:=
 ts.length=tmps.size/\∀(t:Nat) (s:aT),ts[t]?=some (some s)->tmps[t]?=some (s.af ae ph)
structure zA(st:St):Prop where
 tmps:∀(t:Nat) (s:aT),st.tmps[t]?=some (some s)->s.all st.has=true
 aX:∀b∈st.aX,b.all st.has=true
 rows:∀r∈st.rows,r.all st.has=true
def rn(z:Nat->Prop)(w:World)(nk:NK)(h:Int)(xs:List Int)(v:Value):Prop:=
 match nk with
 |.c k=>v=k.val h
 |.s _ k=>h=(xs.length:Int)/\Reads w v xs.length (aB [k] (xs.map fun x=>[x]))/\(xs≠[]->∀b,v.ownBlock=some b->z b)
def rT(z:Nat->Prop)(w:World)(aN:List NK)(v:Value)(xs:List (List Int)):Prop:=
 ∃base cap,v = .slice base xs.length cap/\xs.length<=maxLen/\(base=none->xs.length=0/\cap=0)/\
   ∀i r,xs[i]?=some r->∃a,base=some a/\z a.block/\∀j nk,aN[j]?=some nk->∃u,w.cell? (a.add (i*aN.length+j))=some u/\rn z w nk (r.getD j 0) (ew aN r j) u
def Dq(z:Nat->Prop)(w:World)(B:Nat)(e:TypeId)(aN:List NK)(v:Value)(xs:List (List Int)):Prop:=
 ∃cs:List Value,w.ownsRow B e aN.length v xs.length cs/\∀i r,xs[i]?=some r->∀j nk,aN[j]?=some nk->∃u,cs[i*aN.length+j]?=some u/\rn z w nk (r.getD j 0) (ew aN r j) u
def abF(ae:az)(ph:Ph)(n:dX):Prop:=
 ∃base cap,ph.val n.id = .slice base (ae n.lv).list.length cap/\(ae n.lv).list.length<=maxLen/\(base=none->(ae n.lv).list.length=0/\cap=0)
theorem xO{w w':World}{a:Addr}(h:w'.heap[a.block]?=w.heap[a.block]?):w'.cell? a=w.cell? a:=by
 unfold World.cell?;rw[h]
theorem ka(a:Addr)(j:Nat):(a.add j).block=a.block:=by unfold Addr.add;split<;>rfl
theorem Reads.mL{w w':World}{v:Value}{n:Nat}{cells:List Value}(h:Reads w v n cells)(hz:cells≠[]->∀b,v.ownBlock=some b->w'.heap[b]?=w.heap[b]?):Reads w' v n cells:=by
 obtain⟨base,cap,rfl,hn,h0,hc⟩:=h;refine⟨base,cap,rfl,hn,h0,fun j u hj=>?_⟩;obtain⟨a,rfl,ha⟩:=hc j u hj;refine⟨a,rfl,?_⟩;have hb:w'.heap[(a.add j).block]?=w.heap[(a.add j).block]? :=by
   rw[ka];exact hz (by intro e;rw[e]at hj;simp at hj) _ (by simp[Value.ownBlock])
 rw[xO hb];exact ha
theorem rn.mL{z z':Nat->Prop}{w w':World}{nk:NK}{h:Int}{xs:List Int}{v:Value}(hz:∀k,z k->w'.heap[k]?=w.heap[k]?)(Jc:∀k,z k->z' k)(hc:rn z w nk h xs v):rn z' w' nk h xs v:=by
 cases nk with
 |c k=>exact hc
 | s e k=>
   obtain⟨h1,h2,h3⟩:=hc;have ne:aB [k] (xs.map fun x=>[x])≠[]->xs≠[]:=fun cQ e=>cQ (by subst e;rfl);exact⟨h1,h2.mL fun cQ b hb=>hz _ (h3 (ne cQ) b hb),fun cQ b hb=>Jc _ (h3 cQ b hb)⟩
theorem rT.mL{z z':Nat->Prop}{w w':World}{aN:List NK}{v:Value}{xs:List (List Int)}(hz:∀k,z k->w'.heap[k]?=w.heap[k]?)(Jc:∀k,z k->z' k)(h:rT z w aN v xs):rT z' w' aN v xs:=by
 obtain⟨base,cap,hv,hn,h0,hc⟩:=h;refine⟨base,cap,hv,hn,h0,fun i r hi=>?_⟩;obtain⟨a,e,hza,jn⟩:=hc i r hi;refine⟨a,e,Jc _ hza,fun j nk hj=>?_⟩;obtain⟨u,hu,uI⟩:=jn j nk hj;have hb:w'.heap[(a.add (i*aN.length+j)).block]?=w.heap[(a.add (i*aN.length+j)).block]? :=by
   rw[ka];exact hz _ hza
 exact⟨u,by rw[xO hb];exact hu,uI.mL hz Jc⟩
theorem Dq.reads{z z':Nat->Prop}{w:World}{B:Nat}{e:TypeId}{aN:List NK}{v:Value}{xs:List (List Int)}(h0:0<aN.length)(h:Dq z w B e aN v xs)(hz:∀k,z k->z' k)(ho:∀k,v.ownBlock=some k->z' k):rT z' w aN v xs:=by
 obtain⟨cs,bM,hc⟩:=h;have h':=bM;obtain⟨hl,⟨rfl,hn⟩|⟨g,cap,cur,rfl,hg,hh,hn,Nt,hs,ht⟩⟩:=bM;refine⟨none,0,by rw[hn],by rw[hn];exact Nat.zero_le _,fun _=>⟨hn,rfl⟩,fun i r hi=>?_⟩;rw[Dp hn]at hi;simp at hi;refine⟨some ⟨g,0,none⟩,cap,rfl,kL hn Nt,fun h=>by simp at h,fun i r hi=>⟨_,rfl,ho g (by simp[Value.ownBlock]),fun j nk hj=>?_⟩⟩;obtain⟨u,hu,uI⟩:=hc i r hi j nk hj;exact⟨u,h'.cells (by simp[Value.ownBlock]) _ _ hu,uI.mL (fun _ _=>rfl) hz⟩
theorem Dq.mL{z z':Nat->Prop}{w w':World}{B:Nat}{e:TypeId}{aN:List NK}{v:Value}{xs:List (List Int)}(h:Dq z w B e aN v xs)(hz:∀k,z k->w'.heap[k]?=w.heap[k]?)(Jc:∀k,z k->z' k)(ho:∀k,v.ownBlock=some k->w'.heap[k]?=w.heap[k]?):Dq z' w' B e aN v xs:=by
 obtain⟨cs,bM,hc⟩:=h;refine⟨cs,?_,fun i r hi j nk hj=>?_⟩;obtain⟨hl,hr⟩:=bM;refine⟨hl,hr.imp (fun x=>x) ?_⟩;rintro⟨g,cap,cur,hv,hg,hh,zC⟩;exact⟨g,cap,cur,hv,hg,by rw[ho g (by rw[hv];rfl)];exact hh,zC⟩;obtain⟨u,hu,uI⟩:=hc i r hi j nk hj;exact⟨u,hu,uI.mL hz Jc⟩
def ft(B:Nat)(ae:az)(ph:Ph)(n:dX)(w:World):Prop:=
 if n.own then Dq (fun k=>ph.z k/\B<=k) w B n.e n.aN (ph.val n.id) (ae n.lv).list else rT ph.z w n.aN (ph.val n.id) (ae n.lv).list
structure dq(B:Nat)(ae:az)(ph:Ph)(st:St)(w:World):Prop where
 lt:∀k,ph.z k->k<w.heap.size
 bz:∀b∈st.aX,¬ ph.z (ph.r b.id)
 rz:∀r∈st.rows,r.own=true->r.g.af ae=true->∀k,r.bU ae ph=some k->¬ ph.z k
 rd:∀n∈st.a8,n.g.af ae=true->0<n.aN.length/\ft B ae ph n w
 nm:∀n∈st.a8,n.all st.has=true
 oz:∀n∈st.a8,n.own=true->n.g = .c true/\∀k,(ph.val n.id).ownBlock=some k->¬ ph.z k/\(∀b∈st.aX,ph.r b.id≠k)/\(∀r∈st.rows,r.g.af ae=true->r.bU ae ph≠some k)/\∀n'∈st.a8,n'.own=true->n'.id≠n.id->(ph.val n'.id).ownBlock≠some k
theorem dq.own{B:Nat}{ae:az}{ph:Ph}{st:St}{w:World}(h:dq B ae ph st w){n:dX}(hn:n∈st.a8)(ho:n.own=true):n.g = .c true/\0<n.aN.length/\Dq (fun k=>ph.z k/\B<=k) w B n.e n.aN (ph.val n.id) (ae n.lv).list:=by
 have hg:=(h.oz n hn ho).1;obtain⟨h0,h1⟩:=h.rd n hn (by rw[hg];rfl);unfold ft at h1;rw[if_pos ho]at h1;exact⟨hg,h0,h1⟩
theorem dq.oX{B:Nat}{ae:az}{ph:Ph}{st:St}{w:World}(h:dq B ae ph st w){n:dX}(hn:n∈st.a8)(ho:n.own=true){k:Nat}(hk:(ph.val n.id).ownBlock=some k):B<=k/\k<w.heap.size:=by
 obtain⟨_,_,cs,bM,_⟩:=h.own hn ho;exact bM.lt k hk
theorem dq.reads{B:Nat}{ae:az}{ph:Ph}{st:St}{w:World}(h:dq B ae ph st w){n:dX}(hn:n∈st.a8)(hg:n.g.af ae=true):0<n.aN.length/\rT (fun k=>k<w.heap.size) w n.aN (ph.val n.id) (ae n.lv).list:=by
 obtain⟨h0,h1⟩:=h.rd n hn hg;refine⟨h0,?_⟩;unfold ft at h1;split at h1;exact h1.reads h0 (fun k hk=>h.lt k hk.1) (fun k hk=>(h.oX hn (by assumption) hk).2);exact h1.mL (fun _ _=>rfl) h.lt
theorem dq.abG{B:Nat}{ae:az}{ph:Ph}{st:St}{w:World}(h:dq B ae ph st w):∀n∈st.a8,n.g.af ae=true->abF ae ph n/\0<n.aN.length:=fun n hn hg=>by
 obtain⟨h0,base,cap,hv,hl,hb,_⟩:=h.reads hn hg;exact⟨⟨base,cap,hv,hl,hb⟩,h0⟩
structure Sat(w0:World)(ae:az)(ph:Ph)(st:St)(a:Act)(w:World):Prop where
 tmps:fS ae ph st.tmps a.tmps
 mem:jS w0.heap.size ae ph st.aX st.rows w
 below:Below w0.heap.size w0 w
 defers:a.defers=[]
 names:zA st
 nest:dq w0.heap.size ae ph st w
theorem jS.congr{B:Nat}{p:Nat->Bool}{ae aq:az}{ph aJ:Ph}(hg:bt p ae aq ph aJ){aX:List iA}{rows:List Row}{w:World}
   (hb:∀b∈aX,b.all p=true) (hr:∀r∈rows,r.all p=true) (h:jS B ae ph aX rows w):jS B aq aJ aX rows w:=by
 have eb:∀b∈aX,ph.r b.id=aJ.r b.id/\b.cells.map (ak.af ae ph)=b.cells.map (ak.af aq aJ):=fun b hm=>by
   have:=hb b hm;simp only[iA.all,ao]at this;exact⟨hg.r _ this.1,j7 hg this.2⟩
 have er:∀r∈rows,ph.val r.id=aJ.val r.id/\ae r.lv=aq r.lv/\r.g.af ae=r.g.af aq:=fun r hm=>by
   have:=hr r hm;simp only[Row.all,ao]at this;exact⟨by simp only[Ph.val,hg.v _ this.1],hg.e _ this.2.1,BE.ar hg.e this.2.2⟩
 refine⟨fun b hm=>?_,fun b hm b' kR cQ=>?_,fun r hm h1=>?_,fun b hm r kR h1=>?_,fun r hm r' kR cQ ho h1 h2=>?_⟩;have:=h.ny b hm;unfold uk at *;rw[<- (eb b hm).1,<- (eb b hm).2];exact this;rw[<- (eb b hm).1,<- (eb b' kR).1];exact h.bb b hm b' kR cQ;obtain⟨e1,e2,e3⟩:=er r hm;have:=h.row r hm (by rw[e3];exact h1);unfold gA at *;rw[<- e1,<- e2];exact this;obtain⟨e1,e2,e3⟩:=er r kR;have:=h.br b hm r kR (by rw[e3];exact h1);unfold Row.bU at *;rw[<- e1,<- e2,<- (eb b hm).1];exact this;obtain⟨e1,e2,e3⟩:=er r hm;obtain⟨f1,f2,f3⟩:=er r' kR;have hf:r.bU aq aJ=r.bU ae ph:=by unfold Row.bU;rw[e1,e2]
 have Bs:r'.bU aq aJ=r'.bU ae ph:=by unfold Row.bU;rw[f1,f2]
 rw[hf,Bs];exact h.rr r hm r' kR cQ ho (by rw[e3];exact h1) (by rw[f3];exact h2)
theorem dq.congr{B:Nat}{ae aq:az}{ph aJ:Ph}{st:St}{w:World}(h:dq B ae ph st w)(hg:bt st.has ae aq ph aJ)(hz:aJ.z=ph.z)
   (hb:∀b∈st.aX,b.all st.has=true) (hr:∀r∈st.rows,r.all st.has=true):dq B aq aJ st w:=by
 have en:∀n∈st.a8,aJ.val n.id=ph.val n.id/\aq n.lv=ae n.lv/\n.g.af aq=n.g.af ae:=fun n hn=>by
   have:=h.nm n hn;simp only[dX.all,ao]at this;exact⟨by simp only[Ph.val,hg.v _ this.1],(hg.e _ this.2.1).symm,(BE.ar hg.e this.2.2).symm⟩
 have er:∀r∈st.rows,r.bU aq aJ=r.bU ae ph/\r.g.af aq=r.g.af ae:=fun r hm=>by
   have:=hr r hm;simp only[Row.all,ao]at this;refine⟨?_,(BE.ar hg.e this.2.2).symm⟩;unfold Row.bU;rw[hg.e _ this.2.1];simp only[Ph.val,hg.v _ this.1]
 have eb:∀b∈st.aX,aJ.r b.id=ph.r b.id:=fun b hm=>by
   have:=hb b hm;simp only[iA.all,ao]at this;exact(hg.r _ this.1).symm
 refine⟨fun k hk=>h.lt k (by rw[<- hz];exact hk),fun b hm=>?_,fun r hm ho h1 k hk=>?_,fun n hm h1=>?_,h.nm,fun n hm ho=>?_⟩;rw[hz,eb b hm];exact h.bz b hm;rw[hz];exact h.rz r hm ho (by rw[<- (er r hm).2];exact h1) k (by rw[<- (er r hm).1];exact hk);obtain⟨e1,e2,e3⟩:=en n hm;have:=h.rd n hm (by rw[<- e3];exact h1);unfold ft at *;rw[hz,e1,e2];exact this;obtain⟨e1,e2,e3⟩:=en n hm;obtain⟨h1,h2⟩:=h.oz n hm ho;refine⟨h1,fun k hk=>?_⟩;rw[e1]at hk;obtain⟨g1,g2,g3,g4⟩:=h2 k hk;refine⟨by rw[hz];exact g1,fun b Ci=>by rw[eb b Ci];exact g2 b Ci,fun r TN il=>?_,fun n' kR ql cQ=>?_⟩;rw[(er r TN).1];exact g3 r TN (by rw[<- (er r TN).2];exact il);rw[(en n' kR).1];exact g4 n' kR ql cQ
theorem Sat.congr{w0:World}{ae aq:az}{ph aJ:Ph}{st:St}{a:Act}{w:World}(h:Sat w0 ae ph st a w)(hg:bt st.has ae aq ph aJ)(hz:aJ.z=ph.z:=by rfl):Sat w0 aq aJ st a w:=by
 refine⟨⟨h.tmps.1,fun t s ht=>?_⟩,h.mem.congr hg h.names.aX h.names.rows,h.below,h.defers,h.names,h.nest.congr hg hz h.names.aX h.names.rows⟩;rw[<- aT.ar hg (h.names.tmps t s ht)];exact h.tmps.2 t s ht
theorem jS.Dr{B:Nat}{ae:az}{ph:Ph}{aX:List iA}{rows:List Row}{w:World}(h:jS B ae ph aX rows w){b:iA}(hm:b∈aX):ph.r b.id<w.heap.size:=by
 have:=(h.ny b hm).2;exact(rJ.1 this).1
end
section
open Go.RowKit
theorem uJ{k:IntKind}{n:Int}(h:k.min<=n/\n<=k.max):k.wrap n=n:=by
 obtain⟨h1,h2⟩:=h;cases k<;>simp[IntKind.wrap,IntKind.min,IntKind.max,IntKind.signed,IntKind.bits]at * <;>omega
theorem xP(x:Int):(BitVec.ofInt 64 x).toNat=(x%18446744073709551616).toNat:=by
 rw[BitVec.toNat_ofInt];rfl
theorem Fh(k:IntKind)(hk:k = .i64\/k = .u64)(x:Int)(m:Nat)(hm:m<=62) :
   Go.bits .and k x (((2 ^ m:Nat):Int)-1)=x%((2 ^ m:Nat):Int):=by
 have mK:0<2 ^ m:=Nat.two_pow_pos m;have hle:2 ^ m<=2 ^ 62:=Nat.pow_le_pow_right (by decide) hm;have e1:(BitVec.ofInt 64 (((2 ^ m:Nat):Int)-1)).toNat=2 ^ m-1:=by
   rw[xP];generalize 2 ^ m=q at *;have:((q:Int)-1)%18446744073709551616=(q:Int)-1:=Int.emod_eq_of_lt (by omega) (by simp at hle;omega);rw[this];omega
 have e2:(BitVec.ofInt 64 x &&& BitVec.ofInt 64 (((2 ^ m:Nat):Int)-1)).toNat=(x%18446744073709551616).toNat%2 ^ m:=by
   rw[BitVec.toNat_and,e1,Nat.and_two_pow_sub_one_eq_mod,xP]
 have e3:(((x%18446744073709551616).toNat%2 ^ m:Nat):Int)=x%((2 ^ m:Nat):Int):=by
   have h0:0<=x%18446744073709551616:=yM _ (by decide);rw[Int.natCast_emod,Int.toNat_of_nonneg h0];apply Int.emod_emod_of_dvd;have:(18446744073709551616:Int)=((2 ^ 64:Nat):Int):=by decide
   rw[this];exact Int.natCast_dvd_natCast.2 (Nat.pow_dvd_pow 2 (by omega))
 have cJ:(x%18446744073709551616).toNat%2 ^ m<2 ^ m:=Nat.mod_lt _ mK;have hw:∀n:Nat,n<2 ^ 62->k.wrap (n:Int)=n:=by
   intro n hn;apply uJ;rcases hk with rfl|rfl<;>simp[IntKind.min,IntKind.max,IntKind.signed,IntKind.bits]at * <;>omega
 rcases hk with rfl|rfl;show IntKind.i64.wrap ((BitVec.ofInt 64 x &&& BitVec.ofInt 64 (((2 ^ m:Nat):Int)-1)).toNat:Int)=_;rw[e2,hw _ (by omega),e3];show IntKind.u64.wrap ((BitVec.ofInt 64 x &&& BitVec.ofInt 64 (((2 ^ m:Nat):Int)-1)).toNat:Int)=_;rw[e2,hw _ (by omega),e3]
theorem xQ:∀ {f:Nat} {n:Int} {m:Nat},zD f n=some m->m<f/\n=((2 ^ m:Nat):Int)-1:=by
 intro f;induction f with
 |zero=>intro n m h;simp[zD]at h
 | succ f ih=>
   intro n m h;unfold zD at h;split at h;rename_i he;simp only[ah]at h;subst h;exact⟨by omega,by omega⟩;obtain⟨h1,h2⟩:=ih h;exact⟨by omega,h2⟩
section
variable {ae:az}{ph:Ph}
theorem jT{wr:Bool}{k:IntKind}{e:IE}(hn:∀n∈(arith wr k e).1,n.af ae=true):(arith wr k e).2.af ae ph = .int k (k.wrap (e.af ae)):=by
 rw[<- IE.cn ae e];unfold arith at hn ⊢;generalize e.mk=e' at *;unfold Nu at hn ⊢;split at hn;rfl;cases wr;exact(congrArg (Value.int k) (uJ (TK (hn _ (lg.2 rfl)))).symm);rfl
end
end
section
open Go.RowKit
variable {ae:az}{ph:Ph}{P:Program}{w:World}
theorem Jd(k yk:IntKind)(x y:Int)(t:TypeId)(h0:0<=y)(h1:y<=k.bits):(binOp .shl t (.int k x) (.int yk y)).run P w = .ok (.int k (k.wrap (x*2 ^ y.toNat))) w:=by
 rw[binOp_shl,shift_shl k yk x y h0 h1];rfl
theorem Je(k yk:IntKind)(x y:Int)(t:TypeId)(h0:0<=y)(h1:y<=k.bits):(binOp .shr t (.int k x) (.int yk y)).run P w = .ok (.int k (x/2 ^ y.toNat)) w:=by
 rw[binOp_shr,shift_shr k yk x y h0 h1];rfl
theorem TO(k:IntKind)(x y:Int)(t:TypeId)(h:y≠0):(binOp .quo t (.int k x) (.int k y)).run P w = .ok (.int k (k.wrap (x.tdiv y))) w:=by
 rw[binOp_quo];simp[Op.intDiv,h]
theorem TP(k:IntKind)(x y:Int)(t:TypeId)(h:y≠0):(binOp .rem t (.int k x) (.int k y)).run P w = .ok (.int k (x.tmod y)) w:=by
 rw[binOp_rem];simp[Op.intDiv,h]
theorem Jf{e:IE}(h:((BE.tu e).mk).af ae=true):e.af ae≠0:=by
 rw[BE.cn]at h;simpa[BE.af]using h
theorem bY{a b:IE}(h:((BE.le a b).mk).af ae=true):a.af ae<=b.af ae:=by
 rw[BE.cn]at h;simpa[BE.af]using h
theorem fi{a b:IE}(h:((BE.lt a b).mk).af ae=true):a.af ae<b.af ae:=by
 rw[BE.cn]at h;simpa[BE.af]using h
theorem zE{wr:Bool}{op:BinOp}{l1 l2 l:ak}{ns:List BE}(t:TypeId)(x y:Operand)(h:Nv wr op l1 l2=some (ns,l))(hn:∀n∈ns,n.af ae=true) :
   (do eqGuard op t x y (l1.af ae ph) (l2.af ae ph);binOp op t (l1.af ae ph) (l2.af ae ph):Sem Value).run P w = .ok (l.af ae ph) w:=by
 have go:∀(k:IntKind) (a:IE) (v:Value),(binOp op t (.int k (a.af ae)) (l2.af ae ph)).run P w = .ok v w->l1 = .i k a->v=l.af ae ph->
     (do eqGuard op t x y (l1.af ae ph) (l2.af ae ph);binOp op t (l1.af ae ph) (l2.af ae ph):Sem Value).run P w = .ok (l.af ae ph) w:=by
   intro k a v hr hl hv;subst hl;rw[<- hv,<- hr];show Sem.run P (do eqGuard op t x y (.int k (a.af ae)) (l2.af ae ph);binOp op t (.int k (a.af ae)) (l2.af ae ph)) w=_;rw[eqGuard_at_int];rfl
 unfold Nv at h;split at h;rename_i k a _ n;split at h;rename_i hc;obtain⟨h0,h1,h2⟩:=hc;simp only[ah]at h;have h':arith wr k (.mul a (.c ((2 ^ n.toNat:Nat):Int)))=(ns,l):=h;have:=jT (ae:=ae) (ph:=ph) (wr:=wr) (k:=k) (e:=.mul a (.c ((2 ^ n.toNat:Nat):Int))) (by rw[h'];exact hn);rw[h']at this;refine go k a _ (Jd k _ _ n t h0 h2) rfl ?_;rw[this];simp[IE.af];cases h;rename_i k a _ b _;simp only[ah,ay]at h;obtain⟨rfl,rfl⟩:=h;have h0:=bY (hn _ (aK ..));have h1:=bY (hn _ (bl _ (aK ..)));have:=jT (ae:=ae) (ph:=ph) (wr:=wr) (k:=k) (e:=.shl a b) (fun n hm=>hn n (bl _ (bl _ hm)));exact go k a _ (Jd k _ _ _ t h0 h1) rfl this.symm;rename_i k a _ n;split at h;rename_i hc;obtain⟨h0,h1,h2⟩:=hc;simp only[ah,ay]at h;obtain⟨rfl,rfl⟩:=h;refine go k a _ (Je k _ _ n t h0 h2) rfl ?_;simp only[ak.af,IE.cn];simp[IE.af];cases h;rename_i k a _ b _;simp only[ah,ay]at h;obtain⟨rfl,rfl⟩:=h;have h0:=bY (hn _ (aK ..));have h1:=bY (hn _ (bl _ (aK ..)));refine go k a _ (Je k _ _ _ t h0 h1) rfl ?_;simp only[ak.af,IE.cn];simp[IE.af];rename_i k a k' b;split at h;rename_i hk;subst hk;simp only[ah]at h;have h':arith wr k (.add a b)=(ns,l):=h;have:=jT (ae:=ae) (ph:=ph) (wr:=wr) (k:=k) (e:=.add a b) (by rw[h'];exact hn);rw[h']at this;exact go k a _ (by simp[ak.af,binOp_add,Op.intArith];rfl) rfl this.symm;cases h;rename_i k a k' b;split at h;rename_i hk;subst hk;simp only[ah]at h;have h':arith wr k (.sub a b)=(ns,l):=h;have:=jT (ae:=ae) (ph:=ph) (wr:=wr) (k:=k) (e:=.sub a b) (by rw[h'];exact hn);rw[h']at this;exact go k a _ (by simp[ak.af,binOp_sub,Op.intArith];rfl) rfl this.symm;cases h;rename_i k a k' b;split at h;rename_i hk;subst hk;simp only[ah]at h;have h':arith wr k (.mul a b)=(ns,l):=h;have:=jT (ae:=ae) (ph:=ph) (wr:=wr) (k:=k) (e:=.mul a b) (by rw[h'];exact hn);rw[h']at this;exact go k a _ (by simp[ak.af,binOp_mul,Op.intArith];rfl) rfl this.symm;cases h;rename_i k a k' b;split at h;rename_i hk;subst hk;simp only[ah,ay]at h;obtain⟨rfl,rfl⟩:=h;have h0:=Jf (hn _ (aK ..));have:=jT (ae:=ae) (ph:=ph) (wr:=wr) (k:=k) (e:=.tdiv a b) (fun n hm=>hn n (bl _ hm));exact go k a _ (TO k _ _ t h0) rfl this.symm;cases h;rename_i k a k' b;split at h;rename_i hk;subst hk;simp only[ah,ay]at h;obtain⟨rfl,rfl⟩:=h;have h0:=Jf (hn _ (aK ..));refine go k a _ (TP k _ _ t h0) rfl ?_;simp only[ak.af,IE.cn];simp[IE.af];cases h;rename_i k a k' n;split at h;rename_i hk;subst hk;have hand:∀(k:IntKind) (a b:Int),(binOp .and t (.int k a) (.int k b)).run P w = .ok (.int k (Go.bits .and k a b)) w:=fun k a b=>by rw[binOp_and,intBits_and];rfl
 split at h;rename_i m hm;simp only[ah,ay]at h;obtain⟨rfl,rfl⟩:=h;obtain⟨vB,Hd⟩:=xQ hm;refine go _ a _ (hand _ _ _) rfl ?_;rw[Hd];simp only[IE.af];rw[Fh _ (.inl rfl) _ m (by omega)];simp only[ak.af,IE.cn];simp[IE.af];rename_i m hm;simp only[ah,ay]at h;obtain⟨rfl,rfl⟩:=h;obtain⟨vB,Hd⟩:=xQ hm;refine go _ a _ (hand _ _ _) rfl ?_;rw[Hd];simp only[IE.af];rw[Fh _ (.inr rfl) _ m (by omega)];simp only[ak.af,IE.cn];simp[IE.af];simp only[ah,ay]at h;obtain⟨rfl,rfl⟩:=h;refine go _ a _ (hand _ _ _) rfl ?_;simp only[ak.af,IE.cn];simp[IE.af];cases h;rename_i k a k' b _;split at h;rename_i hk;subst hk;simp only[ah,ay]at h;obtain⟨rfl,rfl⟩:=h;refine go k a (.int k (Go.bits .and k (a.af ae) (b.af ae))) (by simp only[ak.af,binOp_and,intBits_and];rfl) rfl ?_;simp only[ak.af,IE.cn];rfl;cases h;rename_i k a k' b;split at h;rename_i hk;subst hk;simp only[ah,ay]at h;obtain⟨rfl,rfl⟩:=h;refine go k a (.int k (Go.bits .or k (a.af ae) (b.af ae))) (by simp only[ak.af,binOp_or,intBits_or];rfl) rfl ?_;simp only[ak.af,IE.cn];rfl;cases h;rename_i k a k' b;split at h;rename_i hk;subst hk;simp only[ah,ay]at h;obtain⟨rfl,rfl⟩:=h;refine go k a (.int k (Go.bits .xor k (a.af ae) (b.af ae))) (by simp only[ak.af,binOp_xor,intBits_xor];rfl) rfl ?_;simp only[ak.af,IE.cn];rfl;cases h;rename_i k a k' b;split at h;rename_i hk;subst hk;simp only[ah,ay]at h;obtain⟨rfl,rfl⟩:=h;refine go k a (.int k (Go.bits .andNot k (a.af ae) (b.af ae))) (by simp only[ak.af,binOp_andNot,intBits_andNot];rfl) rfl ?_;simp only[ak.af,IE.cn];rfl;cases h
 all_goals first
   |cases h;done
   | (rename_i k a k' b
      split at h
      . rename_i hk;subst hk;simp only[ah,ay]at h;obtain⟨rfl,rfl⟩:=h;refine go k a (.bool _) (by simp only[ak.af,binOp_lss,binOp_leq,binOp_gtr,binOp_geq,binOp_eql,binOp_neq];rfl) rfl ?_;simp only[ak.af,BE.cn,BE.af]
        try first|rfl|(rw[Bool.eq_iff_iff];simp;done)|(simp[bne];rw[Bool.eq_iff_iff];simp;done)
      cases h)
end
section
open Go.RowKit
variable {ae:az}{ph:Ph}{P:Program}{w:World}
def veq:Value->Value->Bool
 |.int _ a,.int _ b=>decide (a=b)
 |.bool a,.bool b=>a==b
 |_,_=>false
def nF:List Value->List Value->Bool
 | [],[]=>true
 |x::xs,y::ys=>veq x y&&nF xs ys
 |_,_=>false
def Hk:CK->Value->Bool
 |.i k,.int k' _=>decide (k=k')
 |.b,.bool _=>true
 |.f,.float .f64 _=>true
 |_,_=>false
def jx:List CK->List Value->Bool
 | [],[]=>true
 |k::ks,x::xs=>Hk k x&&jx ks xs
 |_,_=>false
theorem fX:∀ {ks:List CK} {xs:List Value},jx ks xs=true->xs.length=ks.length:=by
 intro ks;induction ks with
 | nil=>intro xs h;cases xs with
   |nil=>rfl
   |cons x xs=>simp[jx]at h
 | cons k ks ih=>intro xs h;cases xs with
   |nil=>simp[jx]at h
   |cons x xs=>simp only[jx,ao]at h;simp[ih h.2]
theorem mM:∀ {ks ks':List CK} {xs:List Value},jx (ks++ks') xs=true->jx ks (xs.take ks.length)=true/\jx ks' (xs.drop ks.length)=true:=by
 intro ks;induction ks with
 |nil=>intro ks' xs h;exact⟨rfl,by simpa using h⟩
 | cons k ks ih=>intro ks' xs h;cases xs with
   |nil=>simp[jx]at h
   | cons x xs=>
     simp only[qt,jx,ao]at h;obtain⟨h1,h2⟩:=ih h.2;exact⟨by simp[jx,h.1,h1],by simpa using h2⟩
theorem xR:∀ {xs ys mD ys':List Value},xs.length=ys.length->nF (xs++mD) (ys++ys')=(nF xs ys&&nF mD ys'):=by
 intro xs;induction xs with
 | nil=>intro ys mD ys' h;cases ys with
   |nil=>simp[nF]
   |cons y ys=>simp at h
 | cons x xs ih=>intro ys mD ys' h;cases ys with
   |nil=>simp at h
   |cons y ys=>simp only[qt,nF,ih (by simpa using h),Bool.and_assoc]
def pv(P:Program)(t:TypeId)(cs:List Value):Value:=if gH P t then .agg cs.toArray else cs.headD undef
theorem cg{t:TypeId}(h:0<P.cellsOf t):(sizeOf t).run P w = .ok (P.cellsOf t) w:=by
 unfold Program.cellsOf at *;cases hi:P.info? t with
 |none=>simp[hi]at h
 |some i=>simp[sizeOf,typeInfo,hi]
theorem tw{t:TypeId}(h:(P.underlying t).isSome=true):(isAgg t).run P w = .ok (gH P t) w:=by
 obtain⟨d,hd⟩:=zF.1 h;simp only[isAgg,gH,eI,run_underlying hd,eH,hd];cases d<;>rfl
theorem tz{t:TypeId}(h:(P.underlying t).isSome=true)(hs:0<P.cellsOf t){cs:Array Value}{off:Nat}(hl:off+P.cellsOf t<=cs.size)(h1:gH P t=false->P.cellsOf t=1) :
   (part t cs off).run P w = .ok (pv P t ((cs.toList.drop off).take (P.cellsOf t))) w:=by
 simp only[part,eI,tw h,eH,pv];cases hb:gH P t with
 | true=>
   simp only[if_true,eI,cg hs,eH,fK];congr 2;apply ke;simp[Array.toList_extract,List.extract_eq_take_drop]
 | false=>
   have uK:=h1 hb;rw[uK]at hl ⊢;have:cs[off]?=some cs[off]:=by simp[Array.getElem?_eq_getElem (show off<cs.size by omega)]
   simp only[jy,if_false,this,fK];congr 1;rw[List.drop_eq_getElem_cons (by simp;omega)];simp
theorem Cj{n:Nat}{t:TypeId}{ks:List CK}(h:flat P n t=some ks):(P.underlying t).isSome=true:=by
 cases n with
 |zero=>simp[flat]at h
 | succ n=>
   unfold flat at h;cases hu:P.underlying t with
   |none=>simp[hu]at h
   |some d=>rfl
theorem vC{n:Nat}{t:TypeId}{ks:List CK}(h:flat P n t=some ks)(ha:gH P t=false):ks.length=1:=by
 cases n with
 |zero=>simp[flat]at h
 | succ n=>
   unfold flat at h;unfold gH at ha;split at h<;>simp_all;rw[<- h];rfl;rw[<- h];rfl
theorem wU:∀(n:Nat) (t:TypeId) (ks:List CK),flat P n t=some ks->XU.wV P n t=false->∀(d:Nat),n<=d->∀xs ys:List Value,
   jx ks xs=true->jx ks ys=true->∀w,(Op.equalIn d t (pv P t xs) (pv P t ys)).run P w = .ok (nF xs ys) w:=by
 intro n;induction n with
 |zero=>intro t ks h;simp[flat]at h
 | succ n ih=>
   intro t ks h hh d hd xs ys hx hy w;obtain⟨d,rfl⟩:∃d',d=d'+1:=⟨d-1,by omega⟩;unfold flat at h;unfold XU.wV at hh;split at h;rename_i k hu;simp only[ah]at h;subst h;have hlx:=fX hx;have hly:=fX hy
   match xs,ys,hlx,hly with
   | [x],[y],_,_=>
     simp only[jx,Bool.and_true]at hx hy;cases x<;>simp[Hk]at hx;cases y<;>simp[Hk]at hy;simp only[pv,gH,hu,jy,if_false,List.headD_cons];subst hx;subst hy;rw[run_equalIn_int w d t _ _ _ _ hu];simp[nF,veq];rw[Bool.eq_iff_iff];simp
   rename_i hu;simp only[ah]at h;subst h;have hlx:=fX hx;have hly:=fX hy
   match xs,ys,hlx,hly with
   | [x],[y],_,_=>
     simp only[jx,Bool.and_true]at hx hy;cases x<;>simp[Hk]at hx;cases y<;>simp[Hk]at hy;simp only[pv,gH,hu,jy,if_false,List.headD_cons];rw[run_equalIn_bool w d t _ _ hu];simp[nF,veq]
   rename_i fs hu;simp only[hu,uL]at hh;obtain⟨dV,TQ⟩:=hh;simp only[pv,gH,hu,if_true];have hf:P.fieldsOf t=fs:=by simp[Program.fieldsOf,hu]
   rw[run_equalIn_struct w d t _ _ (by rw[hf];exact hu) dV,hf];have key:∀(l:List Field) (off:Nat) (ks:List CK),zG P (flat P n) off l=some ks->(l.any fun f=>f.name == "_" ||XU.wV P n f.type)=false->
       ∀xs ys:List Value,xs.length=off+ks.length->ys.length=off+ks.length->jx ks (xs.drop off)=true->jx ks (ys.drop off)=true->
       ∀w,(Op.eqFields d xs.toArray ys.toArray l).run P w = .ok (nF (xs.drop off) (ys.drop off)) w:=by
     intro l;induction l with
     | nil=>
       intro off ks h _ xs ys hx hy _ _ w;simp only[zG,ah]at h;subst h;simp at hx hy;simp[Op.eqFields,List.drop_eq_nil_of_le,hx,hy,nF]
     | cons f l ihl=>
       intro off ks h TQ xs ys pC hyl hx hy w;simp only[zG]at h;split at h;rename_i Hl;split at h;rename_i m hm;split at h;rename_i hc;split at h;rename_i r hr;simp only[ah]at h;subst h;simp only[List.any_cons,uL]at TQ;obtain⟨⟨abH,Nw⟩,zC⟩:=TQ;have cQ:f.name≠ "_" :=by simpa using abH
       obtain⟨XV,Nx⟩:=mM hx;obtain⟨hy1,hy2⟩:=mM hy;simp only[eY]at pC hyl;have M7:=Cj hm;have px:=tz (P:=P) (w:=w) M7 (by omega) (cs:=xs.toArray) (off:=f.offset) (by simp;omega) (fun ha=>by rw[hc.1];exact vC hm ha);have py:=tz (P:=P) (w:=w) M7 (by omega) (cs:=ys.toArray) (off:=f.offset) (by simp;omega) (fun ha=>by rw[hc.1];exact vC hm ha);simp only[Ds,hc.1,Hl]at px py;simp only[Op.eqFields,cQ,ne_eq,not_false_eq_true,if_true,eI,Hl,px,py,eH];rw[ih f.type m hm Nw d (by omega) _ _ XV hy1 w];simp only[eH];have e:nF (xs.drop off) (ys.drop off)=(nF ((xs.drop off).take m.length) ((ys.drop off).take m.length)&&nF ((xs.drop off).drop m.length) ((ys.drop off).drop m.length)):=by
         rw[<- xR (by simp;omega),Dt,Dt]
       rw[e];cases nF ((xs.drop off).take m.length) ((ys.drop off).take m.length);simp;have:=ihl (off+m.length) r hr zC xs ys (by omega) (by omega) (by simpa using Nx) (by simpa using hy2) w;simp only[Bool.not_true,jy,if_false,Bool.true_and,List.drop_drop];exact this;cases h;cases h;cases h;cases h
   have hlx:=fX hx;have hly:=fX hy;exact key fs.toList 0 ks h TQ xs ys (by omega) (by omega) (by simpa using hx) (by simpa using hy) w;rename_i len e hu;split at h;rename_i m hm;split at h;rename_i hc;simp only[ah]at h;subst h;simp only[hu]at hh;simp only[pv,gH,hu,if_true];have hi:∃i,P.info? e=some i:=by
     have:=hc.2;rw[<- hc.1]at this;unfold Program.cellsOf at this;cases hi:P.info? e with
     |none=>simp[hi]at this
     |some i=>exact⟨i,rfl⟩
   obtain⟨i,hi⟩:=hi;rw[run_equalIn_array w d _ _ hu hi];have M7:=Cj hm;have key:∀(c:Nat) (s:Nat) (xs ys:List Value),xs.length=(s+c)*m.length->ys.length=(s+c)*m.length->
       jx (List.replicate c m).flatten (xs.drop (s*m.length))=true->jx (List.replicate c m).flatten (ys.drop (s*m.length))=true->
       ∀w,(Op.eqItems d e (P.cellsOf e) xs.toArray ys.toArray (List.range' s c)).run P w = .ok (nF (xs.drop (s*m.length)) (ys.drop (s*m.length))) w:=by
     intro c;induction c with
     | zero=>
       intro s xs ys hx hy _ _ w;rw[gP]at hx hy;have e1:xs.drop (s*m.length)=[]:=List.drop_eq_nil_of_le (by omega);have e2:ys.drop (s*m.length)=[]:=List.drop_eq_nil_of_le (by omega);simp[Op.eqItems,e1,e2,nF]
     | succ c ihc=>
       intro s xs ys pC hyl hx hy w;simp only[List.replicate_succ,List.flatten_cons]at hx hy;obtain⟨XV,Nx⟩:=mM hx;obtain⟨hy1,hy2⟩:=mM hy;have Fi:(s+(c+1))*m.length=s*m.length+m.length+c*m.length:=by rw[la,la,Nat.one_mul];omega
       have px:=tz (P:=P) (w:=w) M7 (by omega) (cs:=xs.toArray) (off:=s*m.length) (by simp;omega) (fun ha=>by rw[hc.1];exact vC hm ha);have py:=tz (P:=P) (w:=w) M7 (by omega) (cs:=ys.toArray) (off:=s*m.length) (by simp;omega) (fun ha=>by rw[hc.1];exact vC hm ha);simp only[Ds,hc.1]at px py;simp only[List.range'_succ,Op.eqItems,eI,hc.1,px,py,eH];rw[ih e m hm hh d (by omega) _ _ XV hy1 w];simp only[eH];have e:nF (xs.drop (s*m.length)) (ys.drop (s*m.length))=(nF ((xs.drop (s*m.length)).take m.length) ((ys.drop (s*m.length)).take m.length)&&nF ((xs.drop (s*m.length)).drop m.length) ((ys.drop (s*m.length)).drop m.length)):=by
         rw[<- xR (by simp;omega),Dt,Dt]
       rw[e];have e3:(s+1)*m.length=s*m.length+m.length:=by rw[la,Nat.one_mul]
       have zH:(s+1+c)*m.length=(s+(c+1))*m.length:=by congr 1;omega
       cases nF ((xs.drop (s*m.length)).take m.length) ((ys.drop (s*m.length)).take m.length);simp;have:=ihc (s+1) xs ys (by omega) (by omega) (by rw[e3];simpa using Nx) (by rw[e3];simpa using hy2) w;simp only[Bool.not_true,jy,if_false,Bool.true_and,List.drop_drop];rw[hc.1,e3]at this;exact this
   have hlx:=fX hx;have hly:=fX hy;have Tl:(List.replicate len m).flatten.length=len*m.length:=by simp
   rw[List.range_eq_range'];have:=key len 0 xs ys (by rw[fC];omega) (by rw[fC];omega) (by simpa using hx) (by simpa using hy) w;simpa using this;cases h;cases h;cases h
theorem KM{k:CK}{l:ak}(h:fits k l=true):Hk k (l.af ae ph)=true:=by
 cases k<;>cases l<;>simp[fits]at h<;>simp[Hk,ak.af,h]
theorem um:∀ {ks:List CK} {ls:List ak},mN ks ls=true->jx ks (ls.map (ak.af ae ph))=true:=by
 intro ks;induction ks with
 | nil=>intro ls h;cases ls with
   |nil=>rfl
   |cons l ls=>simp[mN]at h
 | cons k ks ih=>intro ls h;cases ls with
   |nil=>simp[mN]at h
   |cons l ls=>simp only[mN,ao]at h;simp[jx,KM h.1,ih h.2]
theorem Hm{x y:ak}{p:BE}(h:Hn x y=some p):p.af ae=veq (x.af ae ph) (y.af ae ph):=by
 unfold Hn at h;split at h;split at h;simp only[ah]at h;subst h;simp[BE.cn,BE.af,veq,ak.af];cases h;simp only[ah]at h;subst h;simp[BE.cn,BE.af,veq,ak.af];cases h
theorem Fj:∀ {xs ys:List ak} {p:BE},qu xs ys=some p->p.af ae=nF (xs.map (ak.af ae ph)) (ys.map (ak.af ae ph)):=by
 intro xs;induction xs with
 | nil=>intro ys p h;cases ys with
   |nil=>simp only[qu,ah]at h;subst h;rfl
   |cons y ys=>simp[qu]at h
 | cons x xs ih=>intro ys p h;cases ys with
   |nil=>simp[qu]at h
   | cons y ys=>
     simp only[qu]at h;split at h;rename_i p1 p2 h1 h2;simp only[ah]at h;subst h;simp[BE.cn,BE.af,nF,Hm (ph:=ph) h1,ih h2];cases h
theorem Jg{t:TypeId}{x y:V1}{p:BE}(h:XU P t x y=some p)(X Y:Operand) :
   (do eqGuard .eql t X Y (x.af ae ph) (y.af ae ph);binOp .eql t (x.af ae ph) (y.af ae ph):Sem Value).run P w = .ok (.bool (p.af ae)) w/\
   (do eqGuard .neq t X Y (x.af ae ph) (y.af ae ph);binOp .neq t (x.af ae ph) (y.af ae ph):Sem Value).run P w = .ok (.bool (!(p.af ae))) w:=by
 unfold XU at h;split at h;rename_i a b;split at h;rename_i hu;simp only[ah]at h;subst h;constructor;show Sem.run P (do eqGuard .eql t X Y (.bool _) (.bool _);binOp .eql t (.bool _) (.bool _)) w=_;rw[eqGuard_at_bool];simp only[eI,fK,eH];rw[run_eql_bool w t _ _ hu];simp[BE.cn,BE.af];show Sem.run P (do eqGuard .neq t X Y (.bool _) (.bool _);binOp .neq t (.bool _) (.bool _)) w=_;rw[eqGuard_at_bool];simp only[eI,fK,eH];rw[run_neq_bool w t _ _ hu];simp[BE.cn,BE.af];cases h;rename_i xs ys;split at h;rename_i ks hk;split at h;rename_i hc;simp only[ao,mg]at hc;obtain⟨⟨⟨⟨hx,hy⟩,Du⟩,hg⟩,Nw⟩:=hc;have he:=wU (P:=P) 16 t ks hk Nw 10000 (by omega) _ _ (um (ae:=ae) (ph:=ph) hx) (um (ae:=ae) (ph:=ph) hy) w;simp only[pv,Du,if_true]at he;have hd:=Fj (ae:=ae) (ph:=ph) h;constructor;simp only[V1.af,eI,run_eqGuard_agg w _ t X Y _ _ hg,eH,run_eql_struct,he,hd];simp only[V1.af,eI,run_eqGuard_agg w _ t X Y _ _ hg,eH,run_neq_struct,he,hd];cases h;cases h;cases h
end
section
open Go.RowKit
variable {ae:az}{ph:Ph}{P:Program}
theorem hO(a:Addr)(i j:Nat):(a.add i).add j=a.add (i+j):=by
 unfold Addr.add;by_cases hi:i=0;subst hi;simp;by_cases hj:j=0;subst hj;simp[hi];simp[hi,hj,Nat.add_assoc]
theorem jr(b o j:Nat):(⟨b,o,none⟩:Addr).add j=⟨b,o+j,none⟩:=Addr.add_lit b o j
theorem Fk{v:Value}{x:V1}(h:ofConst v=some x):x.af ae ph=v:=by
 unfold ofConst at h;split at h<;>simp only[ah,reduceCtorEq]at h<;>subst h<;>rfl
theorem rU{st:St}{G:BE}{x:Operand}{sv:SV}{a:Act}(h:KN st G x=some sv)(hG:G.af ae=true)(ht:fS ae ph st.tmps a.tmps) :
   a.eval x=sv.af ae ph:=by
 unfold KN at h;split at h;rename_i t;split at h;rename_i s hs;split at h;rename_i hg;simp only[ah]at h;subst h;have:=ht.2 t s hs;simp only[Act.eval,Array.getD_eq_getD_getElem?,this,Option.getD_some,aT.af,BE.cN hg hG,if_true];cases h;cases h;rename_i v;simp only[bJ]at h;obtain⟨y,hy,rfl⟩:=h;exact(Fk hy).symm;simp only[ah]at h;subst h;rfl;cases h
theorem cG{st:St}{G:BE}{x:Operand}{v:V1}{a:Act}(h:kS st G x=some v)(hG:G.af ae=true)(ht:fS ae ph st.tmps a.tmps) :
   a.eval x=v.af ae ph:=by
 unfold kS at h;split at h;rename_i y hy;simp only[ah]at h;subst h;exact rU hy hG ht;cases h
theorem aA{st:St}{G:BE}{x:Operand}{l:ak}{a:Act}(h:bA st G x=some l)(hG:G.af ae=true)(ht:fS ae ph st.tmps a.tmps) :
   a.eval x=l.af ae ph:=by
 unfold bA at h;split at h;rename_i y hy;simp only[ah]at h;subst h;exact rU hy hG ht;cases h
theorem eA{st:St}{id:Nat}{b:iA}(h:gj st id=some b):b∈st.aX/\b.id=id:=by
 unfold gj at h;exact⟨Dv h,by simpa using List.find?_some h⟩
theorem aY{st:St}{id:Nat}{r:Row}(h:bK st id=some r):r∈st.rows/\r.id=id:=by
 unfold bK at h;exact⟨Dv h,by simpa using List.find?_some h⟩
theorem da{st:St}{id:Nat}{r:dX}(h:eT st id=some r):r∈st.a8/\r.id=id:=by
 unfold eT at h;exact⟨Dv h,by simpa using List.find?_some h⟩
def Looks(P:Program)(t:TypeId)(v:V1):Prop:=
 (P.underlying t).isSome=true/\0<P.cellsOf t/\((gH P t=true/\∃ls,v = .agg ls/\ls.length=P.cellsOf t)\/(gH P t=false/\∃l,v = .one l))
theorem xS{ls:List ak}{off n:Nat}{r:List ak}(h:Ho ls off n=some r):r.length=n/\r=(ls.drop off).take n/\off+n<=ls.length:=by
 unfold Ho at h;split at h;simp only[ah]at h;subst h;exact⟨by simp;omega,rfl,by assumption⟩;cases h
theorem nG{t:TypeId}{cs:List ak}{off:Nat}{v:V1}(h:rV P t cs off=some v) :
   Looks P t v/\∀j l,v.leaves[j]?=some l->cs[off+j]?=some l:=by
 unfold rV at h;split at h;rename_i hc;simp only[ao,aC]at hc;split at h;rename_i ha;simp only[bJ]at h;obtain⟨ls,vx,rfl⟩:=h;obtain⟨h1,h2,h3⟩:=xS vx;refine⟨⟨hc.1,hc.2,.inl ⟨ha,ls,rfl,h1⟩⟩,fun j l hj=>?_⟩;simp only[V1.leaves]at hj;rw[h2,zI]at hj;split at hj;rw[List.getElem?_drop]at hj;exact hj;cases hj;rename_i ha;simp only[bJ]at h;obtain⟨l,hl,rfl⟩:=h;refine⟨⟨hc.1,hc.2,.inr ⟨by simpa using ha,l,rfl⟩⟩,fun j l' hj=>?_⟩;simp only[V1.leaves]at hj;cases j with
 |zero=>simp at hj;subst hj;simpa using hl
 |succ j=>simp at hj
 cases h
theorem iI{t:TypeId}{v:V1}{w:World}{a:Addr}(hv:Looks P t v)(hc:∀j l,v.leaves[j]?=some l->w.cell? (a.add j)=some (l.af ae ph)) :
   (loadVar t a).run P w = .ok (v.af ae ph) w:=by
 obtain⟨hu,hs,⟨ha,ls,rfl,hl⟩|⟨ha,l,rfl⟩⟩:=hv;simp only[loadVar,eI,tw hu,eH,ha,if_true,cg hs];have:=run_loadCells_list (P:=P) w a (ls.map (ak.af ae ph)) (fun j u hj=>by
   rw[jt]at hj;simp only[bJ]at hj;obtain⟨l,hl,rfl⟩:=hj;exact hc j l hl)
 rw[ot,hl]at this;simp only[this,eH,fK];rfl;simp only[loadVar,eI,tw hu,eH,ha,jy,if_false];have:=hc 0 l rfl;rw[Addr.add_zero']at this;simp[run_load,this,V1.af]
theorem wW{t:TypeId}{v:V1}{w:World}{cs:List ak}{off:Nat}(h:rV P t cs off=some v) :
   (part t (cs.map (ak.af ae ph)).toArray off).run P w = .ok (v.af ae ph) w:=by
 obtain⟨⟨hu,hs,hv⟩,hc⟩:=nG h;simp only[part,eI,tw hu,eH];rcases hv with⟨ha,ls,rfl,hl⟩|⟨ha,l,rfl⟩;simp only[ha,if_true,eI,cg hs,eH,fK,V1.af];congr 2;unfold rV at h;simp only[hu,hs,decide_true,Bool.and_self,if_true,ha,bJ]at h;obtain⟨Jh,vx,e⟩:=h;obtain⟨h1,h2,h3⟩:=xS vx;simp only[V1.agg.injEq]at e;subst e;apply ke;simp[Array.toList_extract,List.extract_eq_take_drop,h2,List.map_take,List.map_drop];have:=hc 0 l rfl;simp only[gP]at this;simp[ha,this,V1.af]
theorem BA:∀ {n:Nat} {cells:List ak} {off sz:Nat} {ls:List ak},rW cells off sz n=some ls->ls.length=n/\∀j l,ls[j]?=some l->cells[off+j*sz]?=some l:=by
 intro n;induction n with
 |zero=>intro cells off sz ls h;simp only[rW,ah]at h;subst h;simp
 | succ n ih=>
   intro cells off sz ls h;simp only[rW]at h;split at h;rename_i l Jh h1 h2;simp only[ah]at h;subst h;obtain⟨h3,h4⟩:=ih h2;refine⟨by simp[h3],fun j l' hj=>?_⟩;cases j with
   |zero=>simp at hj;subst hj;simpa using h1
   | succ j=>
     simp only[zy]at hj;have:=h4 j l' hj;rw[la,Nat.one_mul];rwa[show off+(j*sz+sz)=off+sz+j*sz by omega]
   cases h
theorem Fm{x:IE}:∀ {ls:List ak} {j:Nat} {l:ak},tA x j ls=some l->∀i:Nat,x.af ae=((j+i:Nat):Int)->i<ls.length->∃l',ls[i]?=some l'/\l.af ae ph=l'.af ae ph:=by
 intro ls;induction ls with
 |nil=>intro j l h;simp[tA]at h
 | cons l0 ls ih=>
   intro j l h i hx hi;cases ls with
   | nil=>
     simp only[tA,ah]at h;subst h;have:i=0:=by simp at hi;exact hi
     subst this;exact⟨l0,rfl,rfl⟩
   | cons l1 ls=>
     simp only[tA]at h;split at h;rename_i k a k' b h1;split at h;rename_i hk;subst hk;simp only[ah]at h;subst h;cases i with
     | zero=>
       refine⟨_,rfl,?_⟩;simp only[gP]at hx;simp[ak.af,IE.af,hx]
     | succ i=>
       obtain⟨l',uM,he⟩:=ih h1 i (by rw[hx];congr 1;omega) (by simpa using hi);refine⟨l',by simpa using uM,?_⟩;have cQ:x.af ae≠(j:Int):=by rw[hx];omega
       rw[<- he];simp[ak.af,IE.af,cQ]
     cases h;rename_i p q h1;simp only[ah]at h;subst h;cases i with
     | zero=>
       refine⟨_,rfl,?_⟩;simp only[gP]at hx;simp[ak.af,BE.af,IE.af,hx]
     | succ i=>
       obtain⟨l',uM,he⟩:=ih h1 i (by rw[hx];congr 1;omega) (by simpa using hi);refine⟨l',by simpa using uM,?_⟩;have cQ:x.af ae≠(j:Int):=by rw[hx];omega
       rw[<- he];simp[ak.af,BE.af,IE.af,cQ]
     cases h
theorem wX{cells:List ak}{off sz n:Nat}{x:IE}{l:ak}(h:Fo cells off sz n x=some l)(h0:0<=x.af ae)(h1:x.af ae<(n:Int)) :
   ∃l',cells[off+(x.af ae).toNat*sz]?=some l'/\l.af ae ph=l'.af ae ph:=by
 unfold Fo at h;split at h;rename_i ls vx;obtain⟨e1,e2⟩:=BA vx;obtain⟨l',uM,he⟩:=Fm (ae:=ae) (ph:=ph) h (x.af ae).toNat (by omega) (by omega);exact⟨l',e2 _ l' uM,he⟩;cases h
theorem Dw{cells:List ak}{sz n:Nat}{x:IE}(h0:0<=x.af ae)(h1:x.af ae<(n:Int)):∀ {m off:Nat} {ls:List ak},rX cells sz n x off m=some ls->
   ls.length=m/\∀j l,ls[j]?=some l->∃l',cells[off+j+(x.af ae).toNat*sz]?=some l'/\l.af ae ph=l'.af ae ph:=by
 intro m;induction m with
 |zero=>intro off ls h;simp only[rX,ah]at h;subst h;simp
 | succ m ih=>
   intro off ls h;simp only[rX]at h;split at h;rename_i l Jh h2 h3;simp only[ah]at h;subst h;obtain⟨e1,e2⟩:=ih h3;refine⟨by simp[e1],fun j l' hj=>?_⟩;cases j with
   |zero=>simp at hj;subst hj;exact wX h2 h0 h1
   | succ j=>
     simp only[zy]at hj;have:=e2 j l' hj;rwa[show off+1+j=off+(j+1)by omega]at this
   cases h
theorem BB{lv:Nat}{x:IE}:∀ {ks:List CK} {j0 j:Nat},(nz lv x j0 ks)[j]?=(ks[j]?).map (qv lv x (j0+j)):=by
 intro ks;induction ks with
 |nil=>intro j0 j;simp[nz]
 | cons k ks ih=>
   intro j0 j;cases j with
   |zero=>simp[nz]
   |succ j=>simp only[nz,zy,ih];rw[show j0+1+j=j0+(j+1)by omega]
theorem rY{lv:Nat}{x:IE}{j:Nat}{k:CK}:(qv lv x j k).af ae ph=k.val (cellAt (ae lv).list (x.af ae) j):=by
 cases k<;>rfl
def oy(ph:Ph):ak->Option Nat
 |.p id _=>some (ph.r id)
 |.pi id _ _ _ _=>some (ph.r id)
 |.ep row _ _ _=>(ph.val row).ownBlock
 |.ab row _ _=>(ph.val row).ownBlock
 |_=>none
theorem ju{B:Nat}{r:Row}{w:World}(h:gA B ae ph r w){i:Int}(h0:0<=i)(h1:i<((ae r.lv).list.length:Int)) :
   ∃a cap,ph.v r.id=(some a,(ae r.lv).list.length,cap)/\∀j k,r.ks[j]?=some k->w.cell? (a.add (i.toNat*r.ks.length+j))=some (k.val (cellAt (ae r.lv).list i j)):=by
 obtain⟨base,cap,hv,hn,lI,hc⟩:=h.reads;have hlen:0<(ae r.lv).list.length:=by omega
 cases base with
 |none=>exact absurd (lI rfl).1 (by omega)
 | some a=>
   have vy:ph.v r.id=(some a,(ae r.lv).list.length,cap):=by
     simp only[Ph.val,Value.slice.injEq]at hv;exact Prod.ext hv.1 (Prod.ext hv.2.1 hv.2.2)
   refine⟨a,cap,vy,fun j k hj=>?_⟩;have He:j<r.ks.length:=(dc.1 hj).1;have:=mH r.ks (ae r.lv).list i.toNat j (by omega) He;rw[hj]at this;obtain⟨a',e,mE⟩:=hc _ _ this;simp only[ah]at e;subst e;exact mE
theorem Ck{B:Nat}{st:St}{G:BE}{t:TypeId}{l:ak}{ns:List BE}{v:V1}{w w':World}(h:Cl P st G t l=some (ns,v))(hG:G.af ae=true)(hn:∀n∈ns,n.af ae=true)
   (hm:jS B ae ph st.aX st.rows w) (hw:∀k,oy ph l=some k->w'.heap[k]?=w.heap[k]?):(Instr.loadAt t (l.af ae ph)).run P w' = .ok (v.af ae ph) w':=by
 unfold Cl at h;split at h;rename_i id off;split at h;rename_i b hb;simp only[bJ,ay]at h;obtain⟨v',hv,rfl,rfl⟩:=h;obtain⟨bn,rfl⟩:=eA hb;obtain⟨pD,jn⟩:=nG hv;have Ny:=(hm.ny b bn).2;have Hp:=hw _ rfl;rw[Ny]at Hp;simp only[Instr.loadAt,ak.af,Instr.sureAddr,eI,fK,eH];refine iI pD fun j lf hj=>?_;rw[jr,cell_of_row w' _ _ _ _ _ Hp];have:=jn j lf hj;simp[this];cases h;rename_i id off sz n x;split at h;rename_i b hb;obtain⟨bn,rfl⟩:=eA hb;have Ny:=(hm.ny b bn).2;have Hp:=hw _ rfl;rw[Ny]at Hp;split at h;cases h;rename_i hc;simp only[mg,Bool.not_eq_false,ao,aC]at hc;have fin:∀v:V1,Looks P t v->(∀j l,v.leaves[j]?=some l->∃l',b.cells[off+j+(x.af ae).toNat*sz]?=some l'/\l.af ae ph=l'.af ae ph)->
     (Instr.loadAt t ((ak.pi b.id off sz n x).af ae ph)).run P w' = .ok (v.af ae ph) w':=by
   intro v pD jn;simp only[Instr.loadAt,ak.af,Instr.sureAddr,eI,fK,eH];refine iI pD fun j lf hj=>?_;obtain⟨l',h1,h2⟩:=jn j lf hj;rw[jr,cell_of_row w' _ _ _ _ _ Hp,show off+(x.af ae).toNat*sz+j=off+j+(x.af ae).toNat*sz by omega];simp[h1,h2]
 split at h;rename_i ha;simp only[bJ,ay]at h;obtain⟨ls,vx,rfl,rfl⟩:=h;have h0:=bY (hn _ (aK ..));have h1:=fi (hn _ (bl _ (aK ..)));obtain⟨e1,e2⟩:=Dw (ae:=ae) (ph:=ph) (x:=x) (n:=n) h0 h1 vx;exact fin _ ⟨hc.1,hc.2,.inl ⟨ha,ls,rfl,e1⟩⟩ e2;rename_i ha;simp only[bJ,ay]at h;obtain⟨lf,hlf,rfl,rfl⟩:=h;have h0:=bY (hn _ (aK ..));have h1:=fi (hn _ (bl _ (aK ..)));refine fin _ ⟨hc.1,hc.2,.inr ⟨by simpa using ha,lf,rfl⟩⟩ fun j l hj=>?_;cases j with
 | zero=>
   simp only[V1.leaves,jZ,ah]at hj;subst hj;exact wX hlf h0 h1
 |succ j=>simp[V1.leaves]at hj
 cases h;rename_i row sz x j;split at h;rename_i r hr;obtain⟨bn,rfl⟩:=aY hr;split at h;rename_i hc;simp only[ao,aC]at hc;obtain⟨hg,rfl⟩:=hc;split at h;rename_i v' hv;simp only[ah,ay]at h;obtain⟨rfl,rfl⟩:=h;have h0:=bY (hn _ (aK ..));have h1:=fi (hn _ (bl _ (aK ..)));simp only[IE.af]at h0 h1;obtain⟨a,cap,jz,gV⟩:=ju (hm.row r bn (BE.cN hg hG)) h0 h1;obtain⟨pD,jn⟩:=nG hv;simp only[Instr.loadAt,ak.af,jz,Instr.sureAddr,eI,fK,eH];refine iI pD fun jj lf hj=>?_;have:=jn jj lf hj;rw[BB]at this;simp only[bJ,fC]at this;obtain⟨k,hk,rfl⟩:=this;rw[hO,Nat.add_assoc,rY,<- gV _ k hk];refine World.cell?_of_block (w:=w) ?_;have kM:∀n,(a.add n).block=a.block:=fun n=>by unfold Addr.add;split<;>rfl
 rw[kM];exact hw _ (by simp[oy,Ph.val,jz,Value.ownBlock]);rename_i hv;unfold Nz at h;split at h;rename_i k n nA;split at h;rename_i hc;simp only[ao,aC]at hc;simp only[ah,ay]at h;obtain⟨rfl,rfl⟩:=h;have hle:=bY (hn _ (aK ..));simp only[IE.af]at hle;have bj:=hm.row r bn (BE.cN hg hG);obtain⟨a,cap,jz,_⟩:=ju bj (i:=0) (Int.le_refl _) (by omega);have KO:∀q:Nat,q<P.cellsOf t->w.cell? (a.add (n+q))=some (k.val (cellAt (ae r.lv).list ((n+q:Nat):Int) 0)):=fun q hq=>by
   obtain⟨a',pF,Dx,gV⟩:=ju bj (i:=((n+q:Nat):Int)) (by omega) (by omega);rw[jz]at Dx;simp only[ay,ah]at Dx;obtain⟨rfl,_⟩:=Dx;have:=gV 0 k (by rw[nA];rfl);rw[nA]at this;simp only[List.length_singleton,Nat.mul_one,gP,qm]at this;exact this
 simp only[Instr.loadAt,ak.af,jz,Instr.sureAddr,eI,fK,eH,IE.af];refine iI ⟨hc.1.1,hc.1.2,.inl ⟨hc.2,_,rfl,by simp⟩⟩ fun jj lf hj=>?_;simp only[V1.leaves,jt,bJ]at hj;obtain⟨q,hq,rfl⟩:=hj;obtain⟨Hf,hqe⟩:=dc.1 hq;simp only[List.length_range]at Hf;simp only[List.getElem_range]at hqe;subst hqe;rw[rY,hO,nA];simp only[List.length_singleton,Nat.mul_one,gP,IE.af];rw[show(Int.ofNat n).toNat=n from rfl,<- KO jj Hf];refine World.cell?_of_block (w:=w) ?_;have kM:∀n,(a.add n).block=a.block:=fun n=>by unfold Addr.add;split<;>rfl
 rw[kM];exact hw _ (by simp[oy,Ph.val,jz,Value.ownBlock]);cases h;cases h;cases h;cases h;rename_i row m b;split at h;rename_i r hr;obtain⟨bn,rfl⟩:=aY hr;split at h;rename_i hc;simp only[ao,aC,mg]at hc;obtain⟨⟨⟨⟨hg,nA⟩,hu⟩,oq⟩,hna⟩:=hc;simp only[ah,ay]at h;obtain⟨rfl,rfl⟩:=h;have h1:=fi (hn _ (aK ..));have h2:=hn _ (bl _ (aK ..));rw[BE.cn]at h2;simp only[IE.af,BE.af,aC]at h1 h2;obtain⟨a,cap,jz,gV⟩:=ju (hm.row r bn (BE.cN hg hG)) (i:=(m:Int)) (by omega) h1;have mE:=gV 0 (.i .u8) (by rw[nA];rfl);rw[nA]at mE;simp only[List.length_singleton,Nat.mul_one,gP,qm]at mE;simp only[Instr.loadAt,ak.af,jz,Instr.sureAddr,eI,fK,eH];refine iI ⟨hu,by omega,.inr ⟨hna,_,rfl⟩⟩ fun jj lf hj=>?_;cases jj with
 |succ jj=>simp[V1.leaves]at hj
 | zero=>
   simp only[V1.leaves,jZ,ah]at hj;subst hj;rw[hO,gP];have hb:∀n,(a.add n).block=a.block:=fun n=>by unfold Addr.add;split<;>rfl
   have:=World.cell?_of_block (w:=w) (w':=w') (a:=a.add m) (by rw[hb];exact hw _ (by simp[oy,Ph.val,jz,Value.ownBlock]));rw[this,mE];simp[ak.af,CK.val,IE.af,mC h2]
 cases h;cases h;cases h
end
section
open Go.RowKit
variable {ae:az}{ph:Ph}{P:Program}
theorem Dy(bs:List UInt8):(⟨bs.toArray⟩:ByteArray).toList=bs:=by
 rw[ByteArray.toList_eq]
theorem KP(bs:List UInt8)(i:Nat):(⟨bs.toArray⟩:ByteArray)[i]?=bs[i]? :=by
 by_cases h:i<bs.length;rw[getElem?_pos (⟨bs.toArray⟩:ByteArray) i (by simpa[ByteArray.size]using h),dG h];rfl;rw[getElem?_neg (⟨bs.toArray⟩:ByteArray) i (by simpa[ByteArray.size]using h),rZ (by omega)]
theorem uo(bs:List UInt8)(l h:Nat):(⟨bs.toArray⟩:ByteArray).extract l h=⟨((bs.drop l).take (h-l)).toArray⟩:=by
 apply ByteArray.ext;simp
theorem uN(bs:List UInt8):(⟨bs.toArray⟩:ByteArray).size=bs.length:=by simp[ByteArray.size]
theorem Fp{B:Nat}{st:St}{G:BE}{t:TypeId}{X Y:Operand}{x y:V1}{ns:List BE}{p:BE}{w w':World}(h:TR P st G t X Y x y=some (ns,p))(hG:G.af ae=true)(hn:∀n∈ns,n.af ae=true)(hm:jS B ae ph st.aX st.rows w) :
   (do eqGuard .eql t X Y (x.af ae ph) (y.af ae ph);binOp .eql t (x.af ae ph) (y.af ae ph):Sem Value).run P w' = .ok (.bool (p.af ae)) w'/\
   (do eqGuard .neq t X Y (x.af ae ph) (y.af ae ph);binOp .neq t (x.af ae ph) (y.af ae ph):Sem Value).run P w' = .ok (.bool (!(p.af ae))) w':=by
 have sl:∀(a:Option Addr) (l c:Nat),(eqGuard .eql t X Y (.slice a l c) (.slice none 0 0)=pure ())/\(eqGuard .neq t X Y (.slice a l c) (.slice none 0 0)=pure ()):=fun a l c=>⟨rfl,rfl⟩;unfold TR at h;split at h;split at h;rename_i e hu;simp only[ah,ay]at h;obtain⟨rfl,rfl⟩:=h;simp only[V1.af,ak.af,(sl none 0 0).1,(sl none 0 0).2];constructor;simp[Lib.run_eql_slice_nil w' t e none 0 0 0 0 hu,BE.af];simp[run_neq_slice_nil w' t e none 0 0 hu,BE.af];cases h;rename_i row;split at h;rename_i e r hu hr;split at h;rename_i hg;simp only[ah,ay]at h;obtain⟨rfl,rfl⟩:=h;obtain⟨bn,rfl⟩:=aY hr;have h1:=fi (hn _ (aK ..));simp only[IE.af]at h1;obtain⟨a,cap,jz,_⟩:=ju (hm.row r bn (BE.cN hg hG)) (i:=0) (Int.le_refl _) h1;simp only[V1.af,ak.af,Ph.val,jz,(sl (some a) _ cap).1,(sl (some a) _ cap).2];constructor;simp[Lib.run_eql_slice_nil w' t e (some a) _ cap 0 0 hu,BE.af];simp[run_neq_slice_nil w' t e (some a) _ cap hu,BE.af];cases h;cases h;rename_i a b;split at h;rename_i hu;simp only[ah,ay]at h;obtain⟨rfl,rfl⟩:=h;simp only[V1.af,ak.af,eqGuard_at_string,binOp_string_eql,binOp_string_neq,Dy];constructor;simp[BE.af];by_cases e:a=b<;>simp[e];simp[BE.af];by_cases e:a=b<;>simp[e];cases h;split at h;rename_i ms hu;split at h;rename_i hc;simp only[ah,ay]at h;obtain⟨rfl,rfl⟩:=h;have hi:P.isIface t=true:=by simp[Program.isIface,hu]
 have g:∀op:BinOp,eqGuard op t X Y .nilIface .nilIface=pure ():=fun op=>by
   cases X with
   |const c=>exact eqGuard_nil_constL ..
   | _=>cases Y with
     |const c=>exact eqGuard_nil_constR ..
     |_=>simp[isConst]at hc
 simp only[V1.af,ak.af,g];constructor;simp[run_eql_nil_nil_at w' t hi,BE.af];simp[run_neq_nil_nil_at w' t hi,BE.af];cases h;cases h;cases h
theorem NA{B:Nat}{r:Row}{w:World}(h:gA B ae ph r w){sz:Nat}{lo n:IE}(h0:0<=lo.af ae)(hn:0<n.af ae)(hl:lo.af ae+n.af ae<=((ae r.lv).list.length:Int)) :
   ∃a cap,ph.v r.id=(some a,(ae r.lv).list.length,cap)/\(ak.vw r.id sz lo n).af ae ph = .slice (some (a.add ((lo.af ae).toNat*sz))) (n.af ae).toNat (cap-(lo.af ae).toNat):=by
 obtain⟨a,cap,jz,_⟩:=ju h h0 (by omega);refine⟨a,cap,jz,?_⟩;obtain⟨base,pF,hv,hlen,_⟩:=h.reads;simp only[Ph.val,jz,Value.slice.injEq]at hv;obtain⟨_,_,rfl⟩:=hv;simp only[ak.af,jz];rw[if_neg (by omega)];rfl
theorem ru{t e:TypeId}{a:Addr}{len cap:Nat}{k:IntKind}{i:Int}{w:World}(hu:P.underlying t=some (.slice e))(h0:0<=i)(h1:i<(len:Int))(hs:0<P.cellsOf e) :
   (Instr.indexAt t (.slice (some a) len cap) (.int k i)).run P w = .ok (.pointer (some (a.add (i.toNat*P.cellsOf e)))) w:=by
 have he:P.elem t=e:=by simp[Program.elem,hu]
 rw[run_indexAt_slice w t a len cap k i (by rw[he];exact hu),he,if_pos ⟨h0,h1⟩,cg hs];rfl
theorem pG{t e:TypeId}{a:Addr}{len cap:Nat}{k:IntKind}{i:Int}{w:World}(hu:P.underlying t=some (.slice e))(h0:0<=i)(h1:i<(len:Int))(hs:(P.info? e).isSome=true) :
   (Instr.indexAt t (.slice (some a) len cap) (.int k i)).run P w = .ok (.pointer (some (a.add (i.toNat*P.cellsOf e)))) w:=by
 have he:P.elem t=e:=by simp[Program.elem,hu]
 obtain⟨info,hi⟩:=zF.1 hs;rw[run_indexAt_slice w t a len cap k i (by rw[he];exact hu),he,if_pos ⟨h0,h1⟩];simp[sizeOf,typeInfo,hi,Program.cellsOf]
theorem NB{B:Nat}{r:Row}{w w':World}(h:gA B ae ph r w){t e:TypeId}{k:IntKind}{sz:Nat}{lo n i:IE}(hu:P.underlying t=some (.slice e))(hc:P.cellsOf e=sz)(hk:r.ks.length=sz)(h0:0<=lo.af ae)(hl:lo.af ae+n.af ae<=((ae r.lv).list.length:Int))(rK:0<=i.af ae)(Ji:i.af ae<n.af ae) :
   (Instr.indexAt t ((ak.vw r.id sz lo n).af ae ph) (.int k (i.af ae))).run P w' = .ok ((ak.ep r.id sz (IE.add lo i).mk 0).af ae ph) w':=by
 obtain⟨a,cap,jz,hd⟩:=NA (sz:=sz) h h0 (by omega) hl;rw[hd,ru hu rK (by omega) (by rw[hc,<- hk];exact h.1)];simp only[ak.af,jz,IE.cn,IE.af,hc,hO,gP];congr 4;rw[<- la];congr 1;omega
theorem NC{B:Nat}{r:Row}{w w':World}(h:gA B ae ph r w){t e:TypeId}{k:IntKind}{bs:List UInt8}{m:Int}{b:UInt8}(hu:P.underlying t=some (.slice e))(hc:P.cellsOf e=1)(hk:r.ks.length=1)(h0:0<=m)(h1:m<((ae r.lv).list.length:Int)) :
   (Instr.indexAt t ((ak.kb r.id bs).af ae ph) (.int k m)).run P w' = .ok ((ak.ab r.id m.toNat b).af ae ph) w':=by
 obtain⟨a,cap,jz,_⟩:=ju h h0 h1;simp only[ak.af,Ph.val,jz];rw[ru hu h0 h1 (by omega)];simp[hc]
theorem KQ:∀ {ls:List ak} {xs:List dp},Fq ls=some xs->ls.map (ak.af ae ph)=xs.map (dp.af ae ph):=by
 intro ls;induction ls with
 |nil=>intro xs h;simp only[Fq,ah]at h;subst h;rfl
 | cons l ls ih=>
   intro xs h;simp only[Fq]at h;split at h;rename_i x mD hx pH;simp only[ah]at h;subst h;rw[ak.down_up hx];simp[dp.Dn,ih pH];cases h
theorem lh{k:IntKind}{i:Int}{y:Nat}{c:BoundsCode}{w:World}(h0:0<=i)(h1:i<=(y:Int)):(Instr.sliceBound (.int k i) y c).run P w = .ok i.toNat w:=by
 simp[Instr.sliceBound,asIntOf,h0,h1]
theorem uq{t e:TypeId}{x:Value}{lo hi mx:Option Value}{w:World}(hu:P.underlying t=some (.slice e)):(Instr.sliceAt t x lo hi mx).run P w=(Instr.slice t x lo hi mx).run P w:=by
 simp[Instr.sliceAt,run_underlying hu]
theorem xT{t:TypeId}{x:Value}{lo hi mx:Option Value}{w:World}(hu:P.underlying t=some .string):(Instr.sliceAt t x lo hi mx).run P w=(Instr.slice t x lo hi mx).run P w:=by
 simp[Instr.sliceAt,run_underlying hu]
theorem Cm{t e:TypeId}{base:Option Addr}{len cap:Nat}{lo hi:Int}{kl:IntKind}{w:World}(hu:P.underlying t=some (.slice e))(hv:Option Value)(hh:hi=(match hv with|none=>(len:Int)|some (.int _ n)=>n|some _=>hi))(hk:∀v,hv=some v->∃k,v = .int k hi)(h0:0<=lo)(h1:lo<=hi)(h2:hi<=(cap:Int))(hs:0<P.cellsOf e) :
   (Instr.sliceAt t (.slice base len cap) (some (.int kl lo)) hv none).run P w = .ok (.slice (if cap=lo.toNat then base else base.map (·.add (lo.toNat*P.cellsOf e))) (hi-lo).toNat (cap-lo.toNat)) w:=by
 rw[uq hu];have e1:(Instr.sliceBounds true len cap (some (.int kl lo)) hv none).run P w = .ok (lo.toNat,hi.toNat,cap) w:=by
   cases hv with
   | none=>
     simp only at hh;subst hh;simp[Instr.sliceBounds,lh h0 h1]
   | some v=>
     obtain⟨k,rfl⟩:=hk v rfl;simp[Instr.sliceBounds,lh (show 0<=hi by omega) h2,lh h0 (show lo<=(hi.toNat:Int)by omega)]
 simp only[Instr.slice,eI,run_underlying hu,eH,e1,cg hs,fK];congr 3;omega
theorem Hq{t e:TypeId}{base:Option Addr}{len cap:Nat}{kh km:IntKind}{w:World}(hu:P.underlying t=some (.slice e))(h2:len<=cap)(hs:0<P.cellsOf e) :
   (Instr.sliceAt t (.slice base len cap) none (some (.int kh (len:Int))) (some (.int km (len:Int)))).run P w = .ok (.slice base len len) w:=by
 rw[uq hu];have e1:(Instr.sliceBounds true len cap none (some (.int kh (len:Int))) (some (.int km (len:Int)))).run P w = .ok (0,len,len) w:=by
   simp[Instr.sliceBounds,lh (P:=P) (w:=w) (k:=km) (c:=.slice3Acap) (show(0:Int)<=(len:Int)by omega) (show(len:Int)<=(cap:Int)by omega),lh (P:=P) (w:=w) (k:=kh) (c:=.slice3B) (y:=len) (show(0:Int)<=(len:Int)by omega) (Int.le_refl _)]
 simp only[Instr.slice,eI,run_underlying hu,eH,e1,cg hs,fK];cases base with
 |none=>simp
 |some a=>simp[Addr.add_zero']
theorem Fs{t:TypeId}{bs:List UInt8}{lo:Int}{kl:IntKind}{w:World}(hu:P.underlying t=some .string)(h0:0<=lo)(h1:lo<=(bs.length:Int)) :
   (Instr.sliceAt t (.string ⟨bs.toArray⟩) (some (.int kl lo)) none none).run P w = .ok (.string ⟨(bs.drop lo.toNat).toArray⟩) w:=by
 rw[xT hu];have e1:(Instr.sliceBounds false bs.length bs.length (some (.int kl lo)) none none).run P w = .ok (lo.toNat,bs.length,bs.length) w:=by
   simp[Instr.sliceBounds,lh h0 h1]
 simp only[Instr.slice,eI,run_underlying hu,eH,uN,fK,uo];simp only[Option.isSome_none,jy,if_false,eI,fK,eH];rw[e1];simp only[eH];rw[pI (by simp)]
theorem KS{t:TypeId}{bs:List UInt8}{hi:Int}{kh:IntKind}{w:World}(hu:P.underlying t=some .string)(h0:0<=hi)(h1:hi<=(bs.length:Int)) :
   (Instr.sliceAt t (.string ⟨bs.toArray⟩) none (some (.int kh hi)) none).run P w = .ok (.string ⟨(bs.take hi.toNat).toArray⟩) w:=by
 rw[xT hu];have e1:(Instr.sliceBounds false bs.length bs.length none (some (.int kh hi)) none).run P w = .ok (0,hi.toNat,bs.length) w:=by
   simp[Instr.sliceBounds,lh h0 h1]
 simp only[Instr.slice,eI,run_underlying hu,eH,uN,fK,uo];simp only[Option.isSome_none,jy,if_false,eI,fK,eH];rw[e1];simp
end
section
open Go.RowKit
variable {ae:az}{ph:Ph}{P:Program}
theorem ak.fE(l:ak):(l.af ae ph).cells = #[l.af ae ph]:=by
 cases l with
 |ep row sz x j=>simp only[ak.af];cases(ph.v row).1<;>rfl
 |ab row m b=>simp only[ak.af];cases(ph.v row).1<;>rfl
 |_=>rfl
theorem V1.fE(v:V1):(v.af ae ph).cells=(v.leaves.map (ak.af ae ph)).toArray:=by
 cases v with
 |one l=>simp[V1.af,V1.leaves,ak.fE]
 |agg ls=>simp[V1.af,V1.leaves,Value.cells]
theorem ak.xU(l:ak):(l.af ae ph).oneCell'=true:=by
 cases l with
 |ep row sz x j=>simp only[ak.af];cases(ph.v row).1<;>rfl
 |ab row m b=>simp only[ak.af];cases(ph.v row).1<;>rfl
 |_=>rfl
theorem mO:∀(ls cells:List ak) (off:Nat),(iJ cells off ls).map (ak.af ae ph) =
   ((ls.map (ak.af ae ph)).zipIdx 0).foldl (fun cs x=>cs.set (off+x.2) x.1) (cells.map (ak.af ae ph)):=by
 have gen:∀(ls cells:List ak) (off k:Nat),(iJ cells (off+k) ls).map (ak.af ae ph) =
     ((ls.map (ak.af ae ph)).zipIdx k).foldl (fun cs x=>cs.set (off+x.2) x.1) (cells.map (ak.af ae ph)):=by
   intro ls;induction ls with
   |nil=>intro cells off k;rfl
   | cons l ls ih=>
     intro cells off k;simp only[iJ,jK,List.zipIdx_cons,wY];rw[show off+k+1=off+(k+1)by omega,ih];simp[List.map_set]
 intro ls cells off;simpa using gen ls cells off 0
theorem wZ(vs:List Value)(cs:Array Value)(off:Nat) :
   (vs.toArray.zipIdx.foldl (fun cs (x:Value×Nat)=>cs.setIfInBounds (off+x.2) x.1) cs).toList=(vs.zipIdx 0).foldl (fun cs x=>cs.set (off+x.2) x.1) cs.toList:=by
 rw[<- Array.foldl_toList];simp only[Array.toList_zipIdx,Ds];generalize vs.zipIdx 0=l;induction l generalizing cs with
 |nil=>rfl
 |cons x l ih=>simp only[wY];rw[ih];simp
theorem Hr(place:Nat->Option (Nat×Nat)):∀(ps:List (Nat×V1)) (cells r:List ak),Co place cells ps=some r->
   Instr.fill place (cells.map (ak.af ae ph)).toArray (ps.map fun p=>(p.1,p.2.af ae ph))=some (r.map (ak.af ae ph)).toArray:=by
 intro ps;induction ps with
 |nil=>intro cells r h;simp only[Co,ah]at h;subst h;rfl
 | cons p ps ih=>
   intro cells r h;obtain⟨i,v⟩:=p;simp only[Co]at h;split at h;cases h;rename_i off size hp;split at h;cases h;rename_i hc;simp only[not_or,ne_eq,Decidable.not_not,Nat.not_lt]at hc;simp only[jK,Instr.fill,hp,V1.fE];rw[if_neg (by simp;omega)];rw[<- ih _ _ h];congr 1;apply ke;rw[wZ];simp[mO]
theorem oY{st:St}{G:BE}{a:Act}(hG:G.af ae=true)(ht:fS ae ph st.tmps a.tmps):∀ {l:List (Nat×Operand)} {ps:List (Nat×V1)},im st G l=some ps->
   (l.map fun p=>(p.1,a.eval p.2))=ps.map fun p=>(p.1,p.2.af ae ph):=by
 intro l;induction l with
 |nil=>intro ps h;simp only[im,ah]at h;subst h;rfl
 | cons p l ih=>
   intro ps h;obtain⟨i,x⟩:=p;simp only[im]at h;split at h;rename_i v l' h1 h2;simp only[ah]at h;subst h;simp only[jK,ih h2,cG h1 hG ht];cases h
theorem vD{v:Value}{l:ak}(h:sa v=some l):l.af ae ph=v:=by
 unfold sa at h;split at h<;>simp only[ah,reduceCtorEq]at h<;>subst h<;>rfl
theorem BC:∀ {vs:List Value} {ls:List ak},vs.mapM sa=some ls->ls.map (ak.af ae ph)=vs:=by
 intro vs;induction vs with
 |nil=>intro ls h;simp at h;subst h;rfl
 | cons v vs ih=>
   intro ls h;rw[List.mapM_cons]at h;simp only[bind,Option.bind_eq_some_iff,pure,ah]at h;obtain⟨l,h1,Jh,h2,rfl⟩:=h;simp[vD h1,ih h2]
theorem xa{t:TypeId}{v:V1}{w:World}(h:pJ P t=some v):(zeroValue t).run P w = .ok (v.af ae ph) w:=by
 unfold pJ at h;cases hi:P.info? t with
 |none=>simp[hi]at h
 | some i=>
   cases hz:i.zero with
   |none=>simp[hi,hz]at h
   | some z=>
     simp only[hi,Option.bind_some,hz]at h;have:(zeroValue t).run P w = .ok z w:=by simp[zeroValue,typeInfo,hi,hz]
     rw[this];congr 1;split at h;rename_i cs e;simp only[bJ]at h;obtain⟨ls,vx,rfl⟩:=h;simp only[ah]at e;subst e;simp[V1.af,BC vx];rename_i u _ e;simp only[bJ]at h;obtain⟨l,hl,rfl⟩:=h;simp only[ah]at e;subst e;exact(vD hl).symm;rename_i e;cases e
theorem fW{t:TypeId}{w:World}(h:(P.info? t).isSome=true):(sizeOf t).run P w = .ok (P.cellsOf t) w:=by
 obtain⟨i,hi⟩:=zF.1 h;simp[sizeOf,typeInfo,hi,Program.cellsOf]
theorem run_places{w:World}:∀(fs:List Field),fs.all (fun f=>(P.info? f.type).isSome)=true->
   (fs.mapM fun(f:Field)=>(do pure (f.offset,<- sizeOf f.type):Sem (Nat×Nat))).run P w = .ok (fs.map fun(f:Field)=>(f.offset,P.cellsOf f.type)) w:=by
 intro fs;induction fs with
 |nil=>intro _;rfl
 | cons f fs ih=>
   intro h;simp only[List.all_cons,ao]at h;rw[List.mapM_cons];simp only[eI,fW h.1,eH,fK,ih h.2,jK]
theorem run_build{t:TypeId}{parts:Array (Nat×Value)}{ps:List (Nat×V1)}{z r:List ak}{place:Nat->Option (Nat×Nat)}{w:World}(hz:pJ P t=some (.agg z))(hp:uO P t=some place)
   (hf:Co place z ps=some r) (Fa:parts.toList=ps.map fun p=>(p.1,p.2.af ae ph)):(Instr.build t parts).run P w = .ok (.agg (r.map (ak.af ae ph)).toArray) w:=by
 have hzr:=xa (ae:=ae) (ph:=ph) (w:=w) hz;have Wu:=Hr (ae:=ae) (ph:=ph) place ps z r hf;unfold uO at hp;simp only[Instr.build,eI,hzr,eH,V1.fE,V1.leaves];split at hp;rename_i fs hu;split at hp;rename_i ch;simp only[ah]at hp;subst hp;simp only[run_underlying hu,eH,eI];have Hg:=run_places (P:=P) (w:=w) fs.toList ch;have:(fs.mapM fun(f:Field)=>(do pure (f.offset,<- sizeOf f.type):Sem (Nat×Nat))).run P w = .ok (fs.map fun(f:Field)=>(f.offset,P.cellsOf f.type)) w:=by
   rw[Array.mapM_eq_mapM_toList];simp only[Sem.run_map,Hg,eH];congr 1;apply ke;simp
 rw[this];simp only[eH,Fa];have e:(fun(x:Nat)=>(fs.map fun(f:Field)=>(f.offset,P.cellsOf f.type))[x]?)=fun(i:Nat)=>(fs[i]?).map fun(f:Field)=>(f.offset,P.cellsOf f.type):=by
   funext i;simp
 rw[e,Wu];rfl;cases hp;rename_i n e hu;split at hp;rename_i hi;simp only[ah]at hp;subst hp;simp only[run_underlying hu,eH,eI,fW hi,Fa,Wu];rfl;cases hp;cases hp
theorem eB{o:Oper}{a:Act}{b:Builtin}{args:Array Operand}{ND:Array TypeId}{w:World}{x:Value}(ho:o.op = .call {callee:=.builtin b,args,argTypes:=ND})
   (hb:∀ts ty cs vs,builtin b ts ty cs vs=(do pure (.value (<- (match b with| .len=>Builtin.len_ ts ty vs| .max=>Builtin.max_ ts ty vs| .min=>Builtin.min_ ts ty vs|_=>Builtin.append_ ts ty vs)))))
   (hr:(match b with| .len=>Builtin.len_ ND o.type (args.map a.eval)| .max=>Builtin.max_ ND o.type (args.map a.eval)| .min=>Builtin.min_ ND o.type (args.map a.eval)|_=>Builtin.append_ ND o.type (args.map a.eval)).run P w = .ok x w) :
   (execOp a.eval o).run P w = .ok (.value x) w:=by
 simp only[execOp,ho,resolve,eI,fK,eH,invoke,hb,hr]
theorem Jj{args:Array Operand}{x y:Operand}(h:args.toList=[x,y])(f:Operand->Value):args.map f = #[f x,f y]:=by
 apply ke;simp[h]
theorem Cp{args:Array Operand}{x y z:Operand}(h:args.toList=[x,y,z])(f:Operand->Value):args.map f = #[f x,f y,f z]:=by
 apply ke;simp[h]
theorem qw{args:Array Operand}{x:Operand}(h:args.toList=[x])(f:Operand->Value):args.map f = #[f x]:=by
 apply ke;simp[h]
theorem XW(a b:Int):(if b>a then b else a)=Max.max a b:=by omega
theorem XY(a b:Int):(if b<a then b else a)=Min.min a b:=by omega
theorem Ft{row sz:Nat}{i:IE}{j o:Nat}:(Dz row sz i j o).af ae ph=(ak.ep row sz i (j+o)).af ae ph:=by
 unfold Dz;split;simp only[ak.af,IE.af,qm,Nat.mul_one,gP,fC];rfl;rfl
theorem lR{c:Bool×Nat}:(qx c).af ae ph=mc ph c:=by
 unfold qx mc;split;simp only[ak.af,IE.af];cases(ph.v c.2).1 with
 |none=>rfl
 |some a=>simp[Addr.add_zero']
 rfl
theorem DA{st:St}{G:BE}{a:Act}(hG:G.af ae=true)(ht:fS ae ph st.tmps a.tmps):∀ {xs:List Operand} {dx:List (Bool×Nat)},sb st G xs=some dx->xs.map a.eval=dx.map (mc ph):=by
 intro xs;induction xs with
 |nil=>intro dx h;simp only[sb,ah]at h;subst h;rfl
 | cons x xs ih=>
   intro dx h;simp only[sb]at h;split at h;rename_i id l hx hl;simp only[ah]at h;subst h;have:=lR (ae:=ae) (ph:=ph) (c:=(false,id));simp only[jK,ih hl,aA hx hG ht,<- this];rfl;rename_i row l hx hl;simp only[ah]at h;subst h;have:=lR (ae:=ae) (ph:=ph) (c:=(true,row));simp only[jK,ih hl,aA hx hG ht,<- this];rfl;cases h
def Jk(st:St)(G:BE)(ph:Ph):Op->Option Nat
 |.load _ x=>(bA st G x).bind (oy ph)
 |_=>none
theorem Jl{B:Nat}{wr:Bool}{st:St}{G:BE}{o:Oper}{ns:List BE}{sv:SV}{a:Act}{w w':World}(h:XZ P wr st G o.op=some (ns,sv))(hG:G.af ae=true)
   (hn:∀n∈ns,n.af ae=true) (ht:fS ae ph st.tmps a.tmps) (hm:jS B ae ph st.aX st.rows w) (hN:∀n∈st.a8,n.g.af ae=true->abF ae ph n/\0<n.aN.length) (hw:∀k,Jk st G ph o.op=some k->w'.heap[k]?=w.heap[k]?) :
   (execOp a.eval o).run P w' = .ok (.value (sv.af ae ph)) w':=by
 unfold XZ at h;split at h
 ·
   rename_i x heq;simp only[bJ,ay]at h;obtain⟨v,hv,rfl,rfl⟩:=h;simp only[execOp,heq,fK,rU hv hG ht]
 ·
   rename_i x heq;simp only[bJ,ay]at h;obtain⟨v,hv,rfl,rfl⟩:=h;simp only[execOp,heq,fK,rU hv hG ht]
 ·
   rename_i c x y heq;split at h
   . rename_i p hp;split at h
     . rename_i bx by' hx hy
       simp only[ah,ay]at h;obtain⟨rfl,rfl⟩:=h;have ec:=aA hp hG ht;simp only[ak.af]at ec;have res:∀q:BE,q.af ae=(if p.af ae then bx.af ae else by'.af ae)->(execOp a.eval o).run P w' = .ok (.value (.bool (q.af ae))) w':=by
         intro q hq;simp only[execOp,heq,ec,asBool,eI,fK,eH,hq];cases hpd:p.af ae with
         | true=>
           have:=aA hx (by rw[BE.cn];simp[BE.af,hG,hpd]) ht;simp[this,ak.af]
         | false=>
           have:=aA hy (by rw[BE.cn];simp[BE.af,BE.cn,hG,hpd]) ht;simp[this,ak.af]
       refine res _ ?_;split
       all_goals
         simp only[BE.cn,BE.af];cases p.af ae<;>simp
     cases h
   cases h
 ·
   rename_i t x y u heq;split at h;rename_i k e k' e' h1 h2;simp only[bJ,ay]at h;obtain⟨⟨qy,l⟩,hb,rfl,rfl⟩:=h;have:=zE (P:=P) (w:=w') (ph:=ph) t x y hb hn;simp only[execOp,heq,cG h1 hG ht,cG h2 hG ht,V1.af];simp only[eI]at this ⊢;rw[this];rfl;rename_i e e' _ h1 h2;split at h;rename_i r hq;simp only[ah,ay]at h;obtain⟨rfl,rfl⟩:=h;have:=(Fp (w':=w') hq hG hn hm).1;simp only[execOp,heq,cG h1 hG ht,cG h2 hG ht];simp only[eI]at this ⊢;rw[this];rfl;simp only[bJ,ay]at h;obtain⟨p,hb,rfl,rfl⟩:=h;have:=(Jg (P:=P) (w:=w') (ae:=ae) (ph:=ph) hb x y).1;simp only[execOp,heq,cG h1 hG ht,cG h2 hG ht];simp only[eI]at this ⊢;rw[this];rfl;cases h
 ·
   rename_i t x y u heq;split at h;rename_i k e k' e' h1 h2;simp only[bJ,ay]at h;obtain⟨⟨qy,l⟩,hb,rfl,rfl⟩:=h;have:=zE (P:=P) (w:=w') (ph:=ph) t x y hb hn;simp only[execOp,heq,cG h1 hG ht,cG h2 hG ht,V1.af];simp only[eI]at this ⊢;rw[this];rfl;rename_i e e' _ h1 h2;split at h;rename_i r hq;simp only[ah,ay]at h;obtain⟨rfl,rfl⟩:=h;have:=(Fp (w':=w') hq hG hn hm).2;simp only[execOp,heq,cG h1 hG ht,cG h2 hG ht];simp only[eI]at this ⊢;rw[this];simp[SV.af,V1.af,ak.af,BE.cn,BE.af];simp only[bJ,ay]at h;obtain⟨p,hb,rfl,rfl⟩:=h;have:=(Jg (P:=P) (w:=w') (ae:=ae) (ph:=ph) hb x y).2;simp only[execOp,heq,cG h1 hG ht,cG h2 hG ht];simp only[eI]at this ⊢;rw[this];simp[SV.af,V1.af,ak.af,BE.cn,BE.af];cases h
 ·
   rename_i op t x y u _ _ heq;split at h;rename_i l1 l2 h1 h2;simp only[bJ,ay]at h;obtain⟨⟨qy,l⟩,hb,rfl,rfl⟩:=h;have:=zE (P:=P) (w:=w') (ph:=ph) t x y hb hn;simp only[execOp,heq,aA h1 hG ht,aA h2 hG ht];simp only[eI]at this ⊢;rw[this];rfl;cases h
 ·
   rename_i t x heq;split at h;rename_i p hp;simp only[ah,ay]at h;obtain⟨rfl,rfl⟩:=h;simp only[execOp,heq,aA hp hG ht,ak.af,Op.unary,eI,fK,eH,SV.af,V1.af,BE.cn,BE.af];cases h
 ·
   rename_i t x heq;split at h;rename_i k e he;simp only[ah,ay]at h;obtain⟨rfl,rfl⟩:=h;have:=jT (ae:=ae) (ph:=ph) hn;simp only[execOp,heq,aA he hG ht,Op.unary,Op.intArith,SV.af,V1.af,this];simp[ak.af,Op.unary,Op.intArith,IE.af];cases h
 ·
   rename_i src dst x heq;split at h;rename_i k e d k' he hs hd;have hk:P.intKind dst=k':=by simp[Program.intKind,hd]
   have cF:∀n:Int,(convert src dst (.int k n)).run P w' = .ok (.int k' (k'.wrap n)) w':=fun n=>by
     have:=run_convert_int (P:=P) w' src dst k n (by rw[hs];rfl) (by rw[hk];exact hd);rw[hk]at this;exact this
   split at h;simp only[ah,ay]at h;obtain⟨rfl,rfl⟩:=h;have:=jT (ae:=ae) (ph:=ph) hn;simp only[SV.af,V1.af,this];simp only[execOp,heq,aA he hG ht,ak.af,eI,cF,eH,fK];simp only[ah,ay]at h;obtain⟨rfl,rfl⟩:=h;simp only[execOp,heq,aA he hG ht,ak.af,eI,cF,eH,fK,SV.af,V1.af,IE.cn,IE.af];cases h
 ·
   rename_i t x heq;split at h;rename_i l hl;simp only[bJ,ay]at h;obtain⟨⟨qy,v⟩,hb,rfl,rfl⟩:=h;have:=Ck (w':=w') hb hG hn hm (fun k hk=>hw k (by simp[Jk,heq,hl,hk]));simp only[execOp,heq,aA hl hG ht,eI,this,eH,fK,SV.af];cases h
 ·
   rename_i s x f heq;have hfo:∀o' t',sc P s f=some (o',t')->∀ad:Addr,(Instr.fieldAt s (.pointer (some ad)) f).run P w' = .ok (.pointer (some (ad.add o'))) w':=by
     intro o' t' ho ad;unfold sc at ho;split at ho;rename_i fs hu;split at ho;rename_i fd TS;split at ho;cases ho;rename_i cQ;simp only[ah,ay]at ho;obtain⟨rfl,rfl⟩:=ho;simp only[Instr.fieldAt,eI,run_underlying hu,eH,TS,Instr.sureAddr,fK,fieldPlace,cg (P:=P) (w:=w') (t:=fd.type) (by omega)];simp[cQ];cases ho;cases ho
   split at h;rename_i id off o' t' hx ho;simp only[ah,ay]at h;obtain⟨rfl,rfl⟩:=h;simp only[execOp,heq,aA hx hG ht,ak.af,eI,hfo _ _ ho,eH,fK,SV.af,V1.af,jr];rename_i id off sz n z o' t' hx ho;simp only[ah,ay]at h;obtain⟨rfl,rfl⟩:=h;simp only[execOp,heq,aA hx hG ht,ak.af,eI,hfo _ _ ho,eH,fK,SV.af,V1.af,jr];rw[show off+(z.af ae).toNat*sz+o'=off+o'+(z.af ae).toNat*sz by omega]
   . rename_i row sz z j o' t' hx ho;split at h;rename_i r hr;split at h;rename_i hc;simp only[ah,ay]at h;obtain⟨rfl,rfl⟩:=h;obtain⟨bn,rfl⟩:=aY hr;have h0:=bY (hn _ (aK ..));have h1:=fi (hn _ (bl _ (aK ..)));simp only[IE.af]at h0 h1;obtain⟨ad,cap,jz,_⟩:=ju (hm.row r bn (BE.cN hc hG)) h0 h1;simp only[SV.af,V1.af,Ft];simp only[execOp,heq,aA hx hG ht,ak.af,jz,eI,hfo _ _ ho,eH,fK,hO,Nat.add_assoc];cases h;split at h
     . rename_i r hr;split at h
       . rename_i hc;simp only[ah,ay]at h;obtain⟨rfl,rfl⟩:=h;obtain⟨bn,rfl⟩:=da hr;have h0:=bY (hn _ (aK ..));have h1:=fi (hn _ (bl _ (aK ..)));simp only[IE.af]at h0 h1;obtain⟨⟨base,cap,jz,_,lI⟩,_⟩:=hN r bn (BE.cN hc hG);cases base with
         |none=>have:=(lI rfl).1;omega
         |some ad=>
         have Dx:ph.v r.id=(some ad,(ae r.lv).list.length,cap):=by
           simp only[Ph.val,Value.slice.injEq]at jz;exact Prod.ext jz.1 (Prod.ext jz.2.1 jz.2.2)
         simp only[execOp,heq,aA hx hG ht,SV.af,V1.af,ak.af,Dx,eI,hfo _ _ ho,eH,fK,hO,Nat.add_assoc]
       cases h
     cases h
   cases h
 ·
   rename_i s x f heq;split at h;rename_i cs o' t' hx ho;simp only[bJ,ay]at h;obtain⟨v,hv,rfl,rfl⟩:=h;unfold sc at ho;split at ho;rename_i fs hu;split at ho;rename_i fd TS;split at ho;cases ho;simp only[ah,ay]at ho;obtain⟨rfl,rfl⟩:=ho;simp only[execOp,heq,cG hx hG ht,V1.af,Instr.field,eI,run_underlying hu,eH,TS,asAgg,fK,wW hv,SV.af];cases ho;cases ho;cases h
 ·
   rename_i t x i heq;split at h
   . rename_i l k e hl hi;simp only[bJ,ay]at h;obtain⟨⟨qy,l'⟩,hb,rfl,rfl⟩:=h;simp only[execOp,heq,aA hl hG ht,aA hi hG ht,eI,SV.af,V1.af];have:(Instr.indexAt t (l.af ae ph) ((ak.i k e).af ae ph)).run P w' = .ok (l'.af ae ph) w':=by
       unfold NF at hb;split at hb;rename_i len el id off hu;have he:P.elem t=el:=by simp[Program.elem,hu]
       have hlen:P.arrayLen t=len:=by simp[Program.arrayLen,hu]
       split at hb;rename_i n;split at hb;rename_i hc;simp only[ah,ay]at hb;obtain⟨rfl,rfl⟩:=hb;simp only[ak.af,IE.af];rw[run_indexAt_array w' t _ k n (by rw[he,hlen];exact hu),he,hlen,if_pos ⟨hc.1,hc.2.1⟩];rw[fW hc.2.2.2];simp only[eH,jr];cases hb;rename_i cQ;split at hb;rename_i hc;simp only[ah,ay]at hb;obtain⟨rfl,rfl⟩:=hb;have h0:=bY (hn _ (aK ..));have h1:=fi (hn _ (bl _ (aK ..)));simp only[IE.af]at h0 h1;simp only[ak.af];rw[run_indexAt_array w' t _ k _ (by rw[he,hlen];exact hu),he,hlen,if_pos ⟨h0,h1⟩];rw[fW hc.2];simp only[eH,jr];cases hb;rename_i len el row sz r j hu;have he:P.elem t=el:=by simp[Program.elem,hu]
       have hlen:P.arrayLen t=len:=by simp[Program.arrayLen,hu]
       split at hb;rename_i rq hrq;split at hb;rename_i hc;obtain⟨rfl,rfl,Tm,hc4,hc5,hc6,hc7⟩:=hc;simp only[ah,ay]at hb;obtain⟨rfl,rfl⟩:=hb;obtain⟨bn,rfl⟩:=aY hrq;have h0:=bY (hn _ (aK ..));have h1:=fi (hn _ (bl _ (aK ..)));have h2:=fi (hn _ (bl _ (bl _ (aK ..))));simp only[IE.af]at h0 h1 h2;obtain⟨ad,cap,jz,_⟩:=ju (hm.row rq bn (BE.cN hc7 hG)) h0 h2;simp only[ak.af,IE.af,jz];rw[run_indexAt_array w' t _ k _ (by rw[he,hlen];exact hu),he,hlen,if_pos ⟨h0,h1⟩];rw[fW hc5];simp only[eH,hO,hc4,Int.toNat_zero,Nat.zero_mul,fC,gP];split at hb;rename_i n;split at hb;rename_i rr Cq;split at hb;rename_i hc;simp only[ah,ay]at hb;obtain⟨rfl,rfl⟩:=hb;simp only[ah]at Cq;subst Cq;obtain⟨bn,rfl⟩:=aY hrq;have h0:=bY (hn _ (aK ..));have h1:=fi (hn _ (bl _ (aK ..)));simp only[IE.af]at h0 h1;obtain⟨ad,cap,jz,_⟩:=ju (hm.row rq bn (BE.cN hc.2.2.2.2 hG)) h0 h1;simp only[ak.af,IE.af,jz];rw[run_indexAt_array w' t _ k n (by rw[he,hlen];exact hu),he,hlen,if_pos ⟨hc.1,hc.2.1⟩];rw[fW hc.2.2.2.1];simp only[eH,hO,Nat.add_assoc];cases hb;cases hb;cases hb;cases hb
       . rename_i el row hu;have he:P.elem t=el:=by simp[Program.elem,hu]
         split at hb;rename_i r hr;split at hb;rename_i hc;simp only[ao,aC]at hc;simp only[ah,ay]at hb;obtain⟨rfl,rfl⟩:=hb;obtain⟨bn,rfl⟩:=aY hr;have h0:=bY (hn _ (aK ..));have h1:=fi (hn _ (bl _ (aK ..)));simp only[IE.af]at h0 h1;have bj:=hm.row r bn (BE.cN hc.1 hG);obtain⟨ad,cap,jz,_⟩:=ju bj h0 h1;simp only[ak.af,IE.af,Ph.val,jz];rw[run_indexAt_slice w' t ad _ cap k _ (by rw[he];exact hu),he,if_pos ⟨h0,h1⟩];rw[cg (by rw[hc.2];exact bj.1),hc.2];simp only[eH,gP];cases hb;split at hb
         . rename_i r hr;split at hb
           . rename_i hc;simp only[ao,aC]at hc;simp only[ah,ay]at hb;obtain⟨rfl,rfl⟩:=hb;obtain⟨bn,rfl⟩:=da hr;have h0:=bY (hn _ (aK ..));have h1:=fi (hn _ (bl _ (aK ..)));simp only[IE.af]at h0 h1;obtain⟨⟨base,cap,jz,_,lI⟩,mK⟩:=hN r bn (BE.cN hc.1 hG);cases base with
             |none=>have:=(lI rfl).1;omega
             |some ad=>
             have Dx:ph.v r.id=(some ad,(ae r.lv).list.length,cap):=by
               simp only[Ph.val,Value.slice.injEq]at jz;exact Prod.ext jz.1 (Prod.ext jz.2.1 jz.2.2)
             simp only[ak.af,IE.af,Ph.val,Dx];rw[run_indexAt_slice w' t ad _ cap k _ (by rw[he];exact hu),he,if_pos ⟨h0,h1⟩];rw[cg (by rw[hc.2];exact mK),hc.2];simp only[eH,gP]
           cases hb
         cases hb
       rename_i el row sz lo n hu;split at hb;rename_i r hr;split at hb;rename_i hc;simp only[ao,aC]at hc;simp only[ah,ay]at hb;obtain⟨rfl,rfl⟩:=hb;obtain⟨bn,rfl⟩:=aY hr;have h0:=bY (hn _ (aK ..));have h1:=fi (hn _ (bl _ (aK ..)));have h2:=bY (hn _ (bl _ (bl _ (aK ..))));have h3:=bY (hn _ (bl _ (bl _ (bl _ (aK ..)))));simp only[IE.af]at h0 h1 h2 h3;exact NB (hm.row r bn (BE.cN hc.1.1 hG)) hu hc.1.2 hc.2 h2 h3 h0 h1;cases hb;cases hb;rename_i el row bs hu;split at hb;rename_i r hr;split at hb;rename_i hc;simp only[ao,aC]at hc;split at hb;rename_i m;split at hb;rename_i tB;simp only[bJ,ay]at hb;obtain⟨b,_,rfl,rfl⟩:=hb;obtain⟨bn,rfl⟩:=aY hr;have h1:=fi (hn _ (aK ..));simp only[IE.af]at h1;exact NC (hm.row r bn (BE.cN hc.1.1 hG)) hu hc.1.2 hc.2 tB h1;cases hb;cases hb;cases hb;cases hb;rename_i el id n sz hu;split at hb;rename_i hc;simp only[ao,aC]at hc;split at hb;rename_i m;split at hb;rename_i tB;simp only[ah,ay]at hb;obtain⟨rfl,rfl⟩:=hb;simp only[ak.af,IE.af];rw[pG hu tB.1 tB.2 hc.2,hc.1,jr,fC];cases hb;simp only[ah,ay]at hb;obtain⟨rfl,rfl⟩:=hb;have h0:=bY (hn _ (aK ..));have h1:=fi (hn _ (bl _ (aK ..)));simp only[IE.af]at h0 h1;simp only[ak.af];rw[pG hu h0 h1 hc.2,hc.1,jr];cases hb;cases hb
     rw[this];rfl
   cases h
 ·
   rename_i t x i heq;split at h;rename_i cs k n len el hx hi hu;split at h;rename_i hc;simp only[bJ,ay]at h;obtain⟨v,hv,rfl,rfl⟩:=h;obtain⟨pD,_⟩:=nG hv;simp only[execOp,heq,cG hx hG ht,aA hi hG ht,V1.af,ak.af,IE.af,Instr.index,asIntOf,eI,fK,eH,run_underlying hu];simp only[hc,and_self,if_true,eI,cg pD.2.1,eH,wW hv,fK,SV.af];cases h;rename_i cs k xi len el cQ hx hi hu;split at h;rename_i hc;simp only[ao,aC,mg]at hc;obtain⟨⟨⟨abI,hna⟩,oq⟩,hlen⟩:=hc;simp only[bJ,ay]at h;obtain⟨l,hl,rfl,rfl⟩:=h;have h0:=bY (hn _ (aK ..));have h1:=fi (hn _ (bl _ (aK ..)));simp only[IE.af]at h0 h1;obtain⟨l',uM,he⟩:=wX (ae:=ae) (ph:=ph) hl h0 h1;rw[Nat.mul_one,fC]at uM;simp only[execOp,heq,cG hx hG ht,aA hi hG ht,V1.af,ak.af,IE.af,Instr.index,asIntOf,eI,fK,eH,run_underlying hu];have hp:rV P el cs (xi.af ae).toNat=some (.one l'):=by
     simp[rV,abI,oq,hna,uM]
   have:=wW (ae:=ae) (ph:=ph) (w:=w') hp;simp only[h0,h1,and_self,if_true,eI,cg (show 0<P.cellsOf el by omega),eH,oq,Nat.mul_one,this,fK,SV.af,V1.af,he];cases h;rename_i bs k n hx hi hu;split at h;rename_i iq;simp only[bJ,ay]at h;obtain⟨b,hb,rfl,rfl⟩:=h;simp only[execOp,heq,cG hx hG ht,aA hi hG ht,V1.af,ak.af,IE.af,Instr.index,asIntOf,eI,fK,eH,run_underlying hu];simp only[iq,if_true,KP,hb,fK,eH,SV.af,V1.af,ak.af,IE.af];cases h;cases h
 ·
   rename_i x heq;split at h;rename_i id off hx;simp only[ah,ay]at h;obtain⟨rfl,rfl⟩:=h;simp only[execOp,heq,aA hx hG ht,ak.af,fK,SV.af,V1.af];rename_i row sz i j hx;split at h;rename_i r hr;split at h;rename_i hc;simp only[ah,ay]at h;obtain⟨rfl,rfl⟩:=h;have h1:=fi (hn _ (aK ..));simp only[IE.af]at h1;obtain⟨bn,rfl⟩:=aY hr;obtain⟨ad,cap,jz,_⟩:=ju (hm.row r bn (BE.cN hc hG)) (i:=0) (Int.le_refl _) h1;simp only[execOp,heq,aA hx hG ht,ak.af,jz,fK,SV.af,V1.af];cases h;cases h;cases h
 ·
   rename_i g first captured heq
   split at h;rename_i hf;simp only[bJ,ay]at h;obtain⟨dx,hc,rfl,rfl⟩:=h;have e:=DA hG ht hc;have e1:first.map a.eval = #[]:=by apply ke;simp[hf]
   have e2:captured.map a.eval=(dx.map (mc ph)).toArray:=by apply ke;simpa using e
   simp only[execOp,heq,Instr.makeFunc,e1,e2,eI,fK,eH,SV.af,V1.af,ak.af];rename_i x hf;split at h;rename_i Nt;have e1:first.map a.eval = #[a.eval x]:=by apply ke;simp[hf]
   have e2:captured.map a.eval = #[]:=by apply ke;simp[Nt]
   split at h;rename_i l hl;simp only[bJ,ay]at h;obtain⟨l0,hd,rfl,rfl⟩:=h;have e3:=cG hl hG ht;rw[ak.down_up hd]at e3;simp only[V1.af]at e3;rw[dp.Dn]at e3;simp only[execOp,heq,Instr.makeFunc,e1,e2,e3,eI,fK,eH,SV.af,V1.af,ak.af];simp;rename_i ls hl;simp only[bJ,ay]at h;obtain⟨l0,hd,rfl,rfl⟩:=h;have e3:=cG hl hG ht;simp only[V1.af,KQ (ae:=ae) (ph:=ph) hd]at e3;simp only[execOp,heq,Instr.makeFunc,e1,e2,e3,eI,fK,eH,SV.af,V1.af,ak.af];simp;cases h;cases h;cases h
 ·
   rename_i t x low high cap heq;split at h;rename_i el row hu hx;split at h;rename_i r hr;split at h;rename_i hc;simp only[ao,aC]at hc;obtain⟨⟨⟨hg,oq⟩,hre⟩,anw⟩:=hc;obtain⟨bn,rfl⟩:=aY hr;have bj:=hm.row r bn (BE.cN hg hG);obtain⟨base,cp,hv,⟨_,hlc⟩,lI,_⟩:=bj.reads;have vy:ph.v r.id=(base,(ae r.lv).list.length,cp):=by
     simp only[Ph.val,Value.slice.injEq]at hv;exact Prod.ext hv.1 (Prod.ext hv.2.1 hv.2.2)
   have mK:0<P.cellsOf el:=by rw[oq];exact bj.1
   split at h;rename_i l;split at h;rename_i kl lo vE;simp only[ah,ay]at h;obtain⟨rfl,rfl⟩:=h;have h0:=bY (hn _ (aK ..));have h1:=bY (hn _ (bl _ (aK ..)));simp only[IE.af]at h0 h1;simp only[execOp,heq,aA hx hG ht,se,Option.map_none,aA vE hG ht,SV.af,V1.af,eI];have:=Cm (P:=P) (w:=w') (t:=t) (e:=el) hu (base:=base) (len:=(ae r.lv).list.length) (cap:=cp) (lo:=lo.af ae) (hi:=((ae r.lv).list.length:Int)) (kl:=kl) none rfl (by simp) h0 h1 (by omega) mK;simp only[ak.af,Ph.val,vy]at this ⊢;rw[this];simp only[eH,fK,IE.cn,IE.af,oq];cases h;rename_i l hh;split at h;rename_i kl lo kh hi vE Wv;simp only[ah,ay]at h;obtain⟨rfl,rfl⟩:=h;have h0:=bY (hn _ (aK ..));have h1:=bY (hn _ (bl _ (aK ..)));have h2:=bY (hn _ (bl _ (bl _ (aK ..))));simp only[IE.af]at h0 h1 h2;simp only[execOp,heq,aA hx hG ht,se,Option.map_none,aA vE hG ht,aA Wv hG ht,SV.af,V1.af,eI];have:=Cm (P:=P) (w:=w') (t:=t) (e:=el) hu (base:=base) (len:=(ae r.lv).list.length) (cap:=cp) (lo:=lo.af ae) (hi:=hi.af ae) (kl:=kl) (some (.int kh (hi.af ae))) rfl (by intro v hv;simp at hv;exact⟨kh,hv.symm⟩) h0 h1 (by omega) mK;simp only[ak.af,Ph.val,vy]at this ⊢;rw[this];simp only[eH,fK,IE.cn,IE.af,oq];cases h;rename_i hh mm;split at h;rename_i kh hi km mx Wv Tn;simp only[ah,ay]at h;obtain⟨rfl,rfl⟩:=h;have h0:=hn _ (aK ..);have h1:=hn _ (bl _ (aK ..));rw[BE.cn]at h0 h1;have h0:hi.af ae=((ae r.lv).list.length:Int):=mC h0;have h1:mx.af ae=((ae r.lv).list.length:Int):=mC h1;simp only[execOp,heq,aA hx hG ht,se,Option.map_none,aA Wv hG ht,aA Tn hG ht,SV.af,V1.af,eI];have:=Hq (P:=P) (w:=w') (t:=t) (e:=el) hu (base:=base) (len:=(ae r.lv).list.length) (cap:=cp) (kh:=kh) (km:=km) hlc mK;simp only[ak.af,Ph.val,vy,h0,h1]at this ⊢;rw[this];simp only[eH,fK];cases h;cases h;cases h;cases h;rename_i bs hu hx;split at h;rename_i l;split at h;rename_i kl lo vE;split at h;rename_i hc;simp only[ah,ay]at h;obtain⟨rfl,rfl⟩:=h;simp only[execOp,heq,aA hx hG ht,se,Option.map_none,aA vE hG ht,SV.af,V1.af,ak.af,IE.af,eI];rw[Fs hu hc.1 hc.2];rfl;cases h;cases h;rename_i hh;split at h;rename_i kh hi Wv;split at h;rename_i hc;simp only[ah,ay]at h;obtain⟨rfl,rfl⟩:=h;simp only[execOp,heq,aA hx hG ht,se,Option.map_none,aA Wv hG ht,SV.af,V1.af,ak.af,IE.af,eI];rw[KS hu hc.1 hc.2];rfl;cases h;cases h;cases h;cases h
 ·
   rename_i t x heq;split at h;rename_i len el hu;split at h;rename_i mK;split at h;rename_i row hx;split at h;rename_i r hr;split at h;rename_i hc;simp only[ao,aC]at hc;simp only[ah,ay]at h;obtain⟨rfl,rfl⟩:=h;obtain⟨bn,rfl⟩:=aY hr;have h0:=bY (hn _ (aK ..));simp only[IE.af]at h0;obtain⟨ad,cp,jz,_⟩:=ju (hm.row r bn (BE.cN hc.1 hG)) (i:=0) (Int.le_refl _) (by omega);simp only[execOp,heq,aA hx hG ht,ak.af,Ph.val,jz,eI,run_arrayAt w' t el len _ _ _ hu (show len<=(ae r.lv).list.length by omega),eH,fK,SV.af,V1.af,IE.af];simp[Addr.add_zero'];cases h;cases h;rename_i row lo n hx;split at h;rename_i r hr;split at h;rename_i hc;simp only[ao,aC]at hc;simp only[ah,ay]at h;obtain⟨rfl,rfl⟩:=h;obtain⟨bn,rfl⟩:=aY hr;have h0:=bY (hn _ (aK ..));have h1:=bY (hn _ (bl _ (aK ..)));have h2:=bY (hn _ (bl _ (bl _ (aK ..))));simp only[IE.af]at h0 h1 h2;obtain⟨ad,cp,jz,hd⟩:=NA (sz:=1) (hm.row r bn (BE.cN hc.1 hG)) h1 (by omega) h2;simp only[execOp,heq,aA hx hG ht,hd,eI,run_arrayAt w' t el len _ _ _ hu (show len<=(n.af ae).toNat by omega),eH,fK,SV.af,V1.af];simp only[ak.af,jz,gP];cases h;cases h;cases h;cases h;cases h
 ·
   rename_i x n heq;split at h;rename_i xs hx;simp only[bJ,ay]at h;obtain⟨v,hv,rfl,rfl⟩:=h;simp only[execOp,heq,rU hx hG ht,SV.af,Instr.extract,List.getElem?_toArray,jt,hv,se,eI,fK,eH];cases h
 ·
   rename_i t parts heq;split at h;rename_i z place ps hz hp Fa;simp only[bJ,ay]at h;obtain⟨cs,jn,rfl,rfl⟩:=h;have e:=oY hG ht Fa;have:=run_build (ae:=ae) (ph:=ph) (w:=w') (parts:=parts.map fun(i,x)=>(i,a.eval x)) hz hp jn (by rw[Array.toList_map];exact e);simp only[execOp,heq,eI,this,eH,fK,SV.af,V1.af];cases h
 ·
   rename_i args ND heq;split at h;rename_i x el ff KO;have X1:∃t,ND[0]?=some t/\P.underlying t=some (.slice el):=by
     simp only[Option.bind_eq_some_iff]at KO;exact KO
   obtain⟨t,ht0,htu⟩:=X1;have he:P.elem t=el:=by simp[Program.elem,htu]
   have cF:∀b n c,(Builtin.len_ ND o.type #[.slice b n c]).run P w' = .ok (goInt n) w':=fun b n c=>by
     simp[Builtin.len_,ht0,run_underlying htu]
   split at h;rename_i row bj;split at h;rename_i r hr;split at h;rename_i hg;simp only[ah,ay]at h;obtain⟨rfl,rfl⟩:=h;obtain⟨bn,rfl⟩:=aY hr;obtain⟨base,cap,hv,_⟩:=(hm.row r bn (BE.cN hg hG)).reads;refine eB heq (fun _ _ _ _=>rfl) ?_;simp only[qw ff,aA bj hG ht,ak.af,hv,cF];rfl;cases h;split at h;rename_i r hr;split at h;rename_i hg;simp only[ah,ay]at h;obtain⟨rfl,rfl⟩:=h;obtain⟨bn,rfl⟩:=da hr;obtain⟨⟨base,cap,hv,_⟩,_⟩:=hN r bn (BE.cN hg hG);refine eB heq (fun _ _ _ _=>rfl) ?_;simp only[qw ff,aA bj hG ht,ak.af,hv,cF];rfl;cases h;cases h;rename_i uP;simp only[ah,ay]at h;obtain⟨rfl,rfl⟩:=h;refine eB heq (fun _ _ _ _=>rfl) ?_;simp only[qw ff,aA uP hG ht,ak.af,cF];rfl;rename_i row szz lo n bj;split at h;split at h;simp only[ah,ay]at h;obtain⟨rfl,rfl⟩:=h;have h0:=bY (hn _ (aK ..));simp only[IE.af]at h0;refine eB heq (fun _ _ _ _=>rfl) ?_;simp only[qw ff,aA bj hG ht,ak.af,cF,SV.af,V1.af,goInt];rw[Int.toNat_of_nonneg h0];cases h;cases h;rename_i id n szz bj;simp only[ah,ay]at h;obtain⟨rfl,rfl⟩:=h;refine eB heq (fun _ _ _ _=>rfl) ?_;simp only[qw ff,aA bj hG ht,ak.af,cF];rfl;rename_i row bs bj;split at h;rename_i r hr;split at h;rename_i hg;simp only[ah,ay]at h;obtain⟨rfl,rfl⟩:=h;have h0:=hn _ (aK ..);rw[BE.cn]at h0;have h0:((ae r.lv).list.length:Int)=(bs.length:Int):=mC h0;obtain⟨bn,rfl⟩:=aY hr;obtain⟨base,cap,hv,_⟩:=(hm.row r bn (BE.cN hg hG)).reads;refine eB heq (fun _ _ _ _=>rfl) ?_;simp only[qw ff,aA bj hG ht,ak.af,hv,cF,SV.af,V1.af,IE.af,goInt,h0];cases h;cases h;cases h;rename_i x ff KO;have X1:∃t,ND[0]?=some t/\P.underlying t=some .string:=by
     simp only[Option.bind_eq_some_iff]at KO;exact KO
   obtain⟨t,ht0,htu⟩:=X1;split at h;rename_i bs hx;simp only[ah,ay]at h;obtain⟨rfl,rfl⟩:=h;refine eB heq (fun _ _ _ _=>rfl) ?_;simp[qw ff,aA hx hG ht,ak.af,Builtin.len_,ht0,run_underlying htu,uN,SV.af,V1.af,IE.af,goInt];cases h;cases h
 ·
   rename_i args ND heq;split at h;rename_i x y ff;split at h;rename_i k e1 k' e2 hx hy;split at h;rename_i hk;subst hk;simp only[ah,ay]at h;obtain⟨rfl,rfl⟩:=h;refine eB heq (fun _ _ _ _=>rfl) ?_;simp only[Jj ff,aA hx hG ht,aA hy hG ht,ak.af,run_max_int2,XW];simp[SV.af,V1.af,ak.af,IE.cn,IE.af];cases h;cases h;rename_i x y z ff;split at h;rename_i k e1 k' e2 k'' e3 hx hy hz;split at h;rename_i hk;obtain⟨rfl,rfl⟩:=hk;simp only[ah,ay]at h;obtain⟨rfl,rfl⟩:=h;refine eB heq (fun _ _ _ _=>rfl) ?_;simp only[Cp ff,aA hx hG ht,aA hy hG ht,aA hz hG ht,ak.af];simp[Builtin.max_,Builtin.max2,List.foldlM,SV.af,V1.af,ak.af,IE.cn,IE.af];omega;cases h;cases h;cases h
 ·
   rename_i args ND heq;split at h;rename_i x y ff;split at h;rename_i k e1 k' e2 hx hy;split at h;rename_i hk;subst hk;simp only[ah,ay]at h;obtain⟨rfl,rfl⟩:=h;refine eB heq (fun _ _ _ _=>rfl) ?_;simp only[Jj ff,aA hx hG ht,aA hy hG ht,ak.af,run_min_int2,XY];simp[SV.af,V1.af,ak.af,IE.cn,IE.af];cases h;cases h;rename_i x y z ff;split at h;rename_i k e1 k' e2 k'' e3 hx hy hz;split at h;rename_i hk;obtain⟨rfl,rfl⟩:=hk;simp only[ah,ay]at h;obtain⟨rfl,rfl⟩:=h;refine eB heq (fun _ _ _ _=>rfl) ?_;simp only[Cp ff,aA hx hG ht,aA hy hG ht,aA hz hG ht,ak.af];simp[Builtin.min_,Builtin.min2,List.foldlM,SV.af,V1.af,ak.af,IE.cn,IE.af];omega;cases h;cases h;cases h
 cases h
end
end Go.Sx
