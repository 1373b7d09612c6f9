/- Plain functions of the UTF layer: what the program's functions compute. No program in sight. -/
namespace Go.Proofs.Lw
/-- the state behind a scalar's first byte -/
def ufirst (b : Int) : Int :=
  if b < 128 then 0
  else if 194 ≤ b ∧ b ≤ 223 then 1
  else if b = 224 then 4
  else if b = 237 then 5
  else if 225 ≤ b ∧ b ≤ 239 then 2
  else if b = 240 then 6
  else if 241 ≤ b ∧ b ≤ 243 then 3
  else if b = 244 then 7
  else 8
def ulow (st : Int) : Int := if st = 4 then 160 else if st = 6 then 144 else 128
def uhigh (st : Int) : Int := if st = 5 then 159 else if st = 7 then 143 else 191
def unext (st : Int) : Int :=
  if st = 4 then 1 else if st = 5 then 1 else if st = 6 then 2 else if st = 7 then 2
  else if st = 1 then 0 else if st = 2 then 1 else if st = 3 then 2 else 8
/-- the state behind a byte -/
def ustep (st b : Int) : Int :=
  if st = 0 then ufirst b
  else if b < ulow st ∨ uhigh st < b then 8 else unext st
def ulead (b : Int) : Int := if 240 ≤ b then 3 else if 224 ≤ b then 2 else 1
/-- a scalar's bytes, as numbers -/
def putN (c : Int) : List Int :=
  if c < 0 ∨ 1114111 < c ∨ 55296 ≤ c ∧ c ≤ 57343 then []
  else if c < 128 then [c]
  else if c < 2048 then [192 + c / 64, 128 + c % 64]
  else if c < 65536 then [224 + c / 4096, 128 + c / 64 % 64, 128 + c % 64]
  else [240 + c / 262144, 128 + c / 4096 % 64, 128 + c / 64 % 64, 128 + c % 64]
end Go.Proofs.Lw
